/- Texts that the proofs of InverterAccepted need. No condition. (Part 6 of 8.) -/
import Derived.Test.YtoagkanlgkdhiaaGreatDoorPIac5
set_option linter.unusedSimpArgs false
set_option linter.unusedVariables false
namespace Bk
open Go Go.RowKit Go.Proofs
attribute [local irreducible] Go.Calls
set_option maxRecDepth 100000 in
set_option maxHeartbeats 1000000 in
theorem limit_c (c : PC) (σ : PS) (t : Nd) (S : Nat → Prop) (a : Option Addr) (k : Nat) (off : Int) (w : World) (hP : PP c σ w) (hz : t.size ≤ 1000000000) (hs : t.sits S w a) :
 Calls Tryz.prog 64 #[.pointer (some ⟨c.pb, 0, none⟩), t.val a k, .int .i64 off] w fun r w' => r = .returned (.tuple #[]) ∧ PP c (limitP t off σ) w' ∧ Fr (· = c.pb) w w' := by
 have X := Fr.refl (· = c.pb) w; have hpb := hP.pbB; have hB := hP.B
 by_cases h0 : σ.err = 0
 · by_cases hd : 80 < t.depth
   · rw [show limitP t off σ = failP σ off 19 from by simp [limitP, h0, hd]]
     refine calls_in Tryz.func64 Tryz.ntmps64 rfl rfl ?_
     focus
      refine cS ?_; (refine lw_box' [_, _, _, _] rfl rfl rfl ?_; intro b1 w2 n3); have h4 := n3.blk; have x5 := n3.ext; have p6 := n3.pos; have z7 := n3.size; clear n3; replace hP := hP.ext x5; replace hs := Nd.sits.ext hs x5; replace X := X.ext x5; clear x5; refine cT (cw_block (cS (C1 Mv (C1 Pn (C1 Pf (lw_load_b tabOk rfl rfl rfl (PP.blk hP) rfl rfl (C1 V2 (C1 Pa (cT (Wno (cS ?_))))))))))); refine lw_loads_b' [_, _, _, _] tabOk rfl rfl rfl h4 rfl rfl rfl ?_; refine cC rfl (Depth_c _ _ _ _ _ _ (Nat.lt_succ_self _) (by omega) (by assumption)) ?_; rintro _ w9 ⟨⟨⟩, x8⟩; have z10 := x8.size; replace h4 := h4.ext x8; replace hP := hP.ext x8; replace hs := Nd.sits.ext hs x8; replace X := X.ext x8; clear x8; refine C1 V5 (C1 Pa (cT (Wya (cw_region (C1 Mv (C1 Mv ?_)))))); refine cC rfl (fail_c _ _ _ _ _ (by assumption)) ?_; rintro _ w13 ⟨⟨⟩, ⟨h11, f12⟩⟩; have z14 := f12.size; replace h4 := h4.fr f12 (by omega); clear hP hs; replace X := X.fr f12 (by omega); clear f12; refine lw_nil (qw_block_norm (qw_end0 rfl ?_)); rotate_left 1
     exact ⟨rfl, by assumption, X⟩
   · by_cases h2 : 2000 < t.size
     · rw [show limitP t off σ = failP σ off 5 from by simp [limitP, h0, hd, h2]]
       refine calls_in Tryz.func64 Tryz.ntmps64 rfl rfl ?_
       focus
        refine cS ?_; (refine lw_box' [_, _, _, _] rfl rfl rfl ?_; intro ba1 wa2 na3); have ha4 := na3.blk; have xa5 := na3.ext; have pa6 := na3.pos; have za7 := na3.size; clear na3; replace hP := hP.ext xa5; replace hs := Nd.sits.ext hs xa5; replace X := X.ext xa5; clear xa5; refine cT (cw_block (cS (C1 Mv (C1 Pn (C1 Pf (lw_load_b tabOk rfl rfl rfl (PP.blk hP) rfl rfl (C1 V2 (C1 Pa (cT (Wno (cS ?_))))))))))); refine lw_loads_b' [_, _, _, _] tabOk rfl rfl rfl ha4 rfl rfl rfl ?_; refine cC rfl (Depth_c _ _ _ _ _ _ (Nat.lt_succ_self _) (by omega) (by assumption)) ?_; rintro _ wa9 ⟨⟨⟩, xa8⟩; have za10 := xa8.size; replace ha4 := ha4.ext xa8; replace hP := hP.ext xa8; replace hs := Nd.sits.ext hs xa8; replace X := X.ext xa8; clear xa8; refine C1 V5 (C1 Pa (cT (Wna (cS (lw_loads_b' [_, _, _, _] tabOk rfl rfl rfl ha4 rfl rfl rfl ?_))))); refine cC rfl (Size_c _ _ _ _ _ _ (Nat.lt_succ_self _) (by omega) (by assumption)) ?_; rintro _ wa12 ⟨⟨⟩, xa11⟩; have za13 := xa11.size; replace ha4 := ha4.ext xa11; replace hP := hP.ext xa11; replace hs := Nd.sits.ext hs xa11; replace X := X.ext xa11; clear xa11; refine C1 V5 (C1 Pa (cT (Wyo (cw_region (C1 Mv (C1 Mv ?_)))))); refine cC rfl (fail_c _ _ _ _ _ (by assumption)) ?_; rintro _ wa16 ⟨⟨⟩, ⟨ha14, fa15⟩⟩; have za17 := fa15.size; replace ha4 := ha4.fr fa15 (by omega); clear hP hs; replace X := X.fr fa15 (by omega); clear fa15; refine lw_nil (qw_block_norm (qw_end0 rfl ?_)); rotate_left 1
       exact ⟨rfl, by assumption, X⟩
     · rw [show limitP t off σ = σ from by simp [limitP, h0, hd, h2]]
       refine calls_in Tryz.func64 Tryz.ntmps64 rfl rfl ?_
       focus
        refine cS ?_; (refine lw_box' [_, _, _, _] rfl rfl rfl ?_; intro bb1 wb2 nb3); have hb4 := nb3.blk; have xb5 := nb3.ext; have pb6 := nb3.pos; have zb7 := nb3.size; clear nb3; replace hP := hP.ext xb5; replace hs := Nd.sits.ext hs xb5; replace X := X.ext xb5; clear xb5; refine cT (cw_block (cS (C1 Mv (C1 Pn (C1 Pf (lw_load_b tabOk rfl rfl rfl (PP.blk hP) rfl rfl (C1 V2 (C1 Pa (cT (Wno (cS ?_))))))))))); refine lw_loads_b' [_, _, _, _] tabOk rfl rfl rfl hb4 rfl rfl rfl ?_; refine cC rfl (Depth_c _ _ _ _ _ _ (Nat.lt_succ_self _) (by omega) (by assumption)) ?_; rintro _ wb9 ⟨⟨⟩, xb8⟩; have zb10 := xb8.size; replace hb4 := hb4.ext xb8; replace hP := hP.ext xb8; replace hs := Nd.sits.ext hs xb8; replace X := X.ext xb8; clear xb8; refine C1 V5 (C1 Pa (cT (Wna (cS (lw_loads_b' [_, _, _, _] tabOk rfl rfl rfl hb4 rfl rfl rfl ?_))))); refine cC rfl (Size_c _ _ _ _ _ _ (Nat.lt_succ_self _) (by omega) (by assumption)) ?_; rintro _ wb12 ⟨⟨⟩, xb11⟩; have zb13 := xb11.size; replace hb4 := hb4.ext xb11; replace hP := hP.ext xb11; replace hs := Nd.sits.ext hs xb11; replace X := X.ext xb11; clear xb11; refine C1 V5 (C1 Pa (cT (Wno (cw_skip (qw_block_norm (qw_end0 rfl ?_)))))); rotate_left 1
       exact ⟨rfl, by assumption, X⟩
 · rw [show limitP t off σ = σ from by simp [limitP, h0]]
   refine calls_in Tryz.func64 Tryz.ntmps64 rfl rfl ?_
   focus
    refine cS ?_; (refine lw_box' [_, _, _, _] rfl rfl rfl ?_; intro bc1 wc2 nc3); have hc4 := nc3.blk; have xc5 := nc3.ext; have pc6 := nc3.pos; have zc7 := nc3.size; clear nc3; replace hP := hP.ext xc5; replace hs := Nd.sits.ext hs xc5; replace X := X.ext xc5; clear xc5; refine cT (cw_block (cS (C1 Mv (C1 Pn (C1 Pf (lw_load_b tabOk rfl rfl rfl (PP.blk hP) rfl rfl (C1 V2 (C1 Pa (cT (Wya (cw_skip ?_))))))))))); refine qw_block_norm (qw_end0 rfl ?_); rotate_left 1
   exact ⟨rfl, by assumption, X⟩
end Bk
namespace Bk
open Go
section
variable {ts : List Tok} {n : Int}
end
end Bk
namespace Bk
open Go
section
variable {ts : List Tok} {n : Int}
end
end Bk
namespace Bk
open Go
section
variable (ts : List Tok) (n : Int)
end
section
variable {ts : List Tok} {n : Int}
end
section
variable (ts : List Tok) (n : Int)
end
section
variable {ts : List Tok} {n : Int}
end
section
variable (ts : List Tok) (n : Int)
end
section
variable {ts : List Tok} {n : Int}
end
section
variable (ts : List Tok) (n : Int)
end
section
variable {ts : List Tok} {n : Int}
end
end Bk
namespace Bk
open Go
section
variable {ts : List Tok} {n : Int}
end
end Bk
namespace Bk
open Go Go.RowKit Go.Proofs
attribute [local irreducible] Go.Calls
def VdsR (c : PC) (w : World) (r : List VD × PS) : Ending → World → Prop := fun e w' => ∃ a k, e = .returned (.slice a r.1.length k) ∧ VDs (fun b => w.heap.size ≤ b ∧ b < w'.heap.size) w' r.1 a ∧ PP c r.2 w' ∧ Fr (· = c.pb) w w'
theorem VdsR.ret {c : PC} {w : World} {r : List VD × PS} {e : Ending} {w' : World} (h : VdsR c w r e w') : ∃ v, e = .returned v := by
 obtain ⟨_, _, h, -⟩ := h
 exact ⟨_, h⟩
def PdR (c : PC) (w : World) (r : PD × PS) : Ending → World → Prop := fun e w' => ∃ pa pc ba bc, e = .returned (.agg (r.1.cells pa pc ba bc).toArray) ∧ VDs (fun b => w.heap.size ≤ b ∧ b < w'.heap.size) w' r.1.params pa ∧ r.1.body.sits (fun b => w.heap.size ≤ b ∧ b < w'.heap.size) w' ba ∧ PP c r.2 w' ∧ Fr (· = c.pb) w w'
theorem PdR.ret {c : PC} {w : World} {r : PD × PS} {e : Ending} {w' : World} (h : PdR c w r e w') : ∃ v, e = .returned v := by
 obtain ⟨_, _, _, _, h, -⟩ := h
 exact ⟨_, h⟩
end Bk
namespace Bk
open Go Go.RowKit Go.Proofs
attribute [local irreducible] Go.Calls
def PgR (c : PC) (w : World) (r : PG × PS) : Ending → World → Prop := fun e w' => ∃ va vc pa pc ma mc, e = .returned (.agg (r.1.cells va vc pa pc ma mc).toArray) ∧ r.1.sits (w.heap.size ≤ ·) w' va pa ma ∧ PP c r.2 w' ∧ Fr (· = c.pb) w w'
theorem PgR.ret {c : PC} {w : World} {r : PG × PS} {e : Ending} {w' : World} (h : PgR c w r e w') : ∃ v, e = .returned v := by
 obtain ⟨_, _, _, _, _, _, h, -⟩ := h
 exact ⟨_, h⟩
theorem PDs.wide {S S' : Nat → Prop} {w : World} {l : List PD} {a : Option Addr} (h : PDs S w l a) (hs : ∀ b, S b → S' b) : PDs S' w l a :=
 h.mono hs (fun _ _ _ _ _ ⟨pa, pc, ba, bc, h1, h2, h3⟩ => ⟨pa, pc, ba, bc, h1, h2.wide hs, h3.wide hs⟩)
end Bk
namespace Bk
open Go
theorem takeWhile_len {α : Type} (p : α → Bool) (l : List α) : (l.takeWhile p).length ≤ l.length := by
 induction l with
 | nil => simp
 | cons x r ih => simp only [List.takeWhile_cons]; split <;> simp; exact ih
theorem signLen_le (s : List UInt8) : signLen s ≤ s.length := by
 unfold signLen
 split
 · rename_i h
   rw [List.isPrefixOf_iff_prefix] at h
   exact h.length_le
 · split
   · rename_i h
     rcases s with _ | ⟨a, _ | ⟨b, r⟩⟩
     · exact absurd h (by decide)
     · exfalso
       simp [pairs] at h
     · simp
   · split
     · rename_i h
       cases s with
       | nil => simp at h
       | cons a r => simp
     · omega
theorem firstTok_le (s : List UInt8) : (firstTok s).2 ≤ s.length := by
 cases s with
 | nil => simp [firstTok]
 | cons c r =>
  simp only [firstTok, span]
  split
  · exact takeWhile_len _ _
  · split
    · exact takeWhile_len _ _
    · split
      · exact takeWhile_len _ _
      · split
        · exact takeWhile_len _ _
        · exact signLen_le _
theorem take_takeWhile {α : Type} (p : α → Bool) (l : List α) : l.take (l.takeWhile p).length = l.takeWhile p := by
 induction l with
 | nil => simp
 | cons x r ih => simp only [List.takeWhile_cons]; split <;> simp [ih]
theorem mem_takeWhile {α : Type} (p : α → Bool) (l : List α) : ∀ x ∈ l.takeWhile p, p x = true := by
 induction l with
 | nil => simp
 | cons y r ih =>
  simp only [List.takeWhile_cons]
  split
  · rename_i h
    intro x hx
    rcases List.mem_cons.1 hx with rfl | hx
    · exact h
    · exact ih x hx
  · simp
theorem letter_digit (c : UInt8) (h : letter c = true) : digit c = false := by
 simp only [letter, digit, Bool.and_eq_true, decide_eq_true_eq, Bool.and_eq_false_iff, decide_eq_false_iff_not] at h ⊢
 omega
theorem firstTok_num (s : List UInt8) (h : (firstTok s).1 = 2) : s.take (firstTok s).2 ≠ [] ∧ ∀ x ∈ s.take (firstTok s).2, digit x = true := by
 cases s with
 | nil => simp [firstTok] at h
 | cons c r =>
  simp only [firstTok] at h ⊢
  by_cases h1 : letter c = true
  · simp [h1] at h
  · by_cases h2 : digit c = true
    · simp only [h1, h2, if_true, Bool.false_eq_true, if_false, span]
      rw [take_takeWhile]; refine ⟨by simp [List.takeWhile_cons, h2], mem_takeWhile _ _⟩
    · exfalso
      simp only [h1, h2, Bool.false_eq_true, if_false] at h
      by_cases h3 : blank c = true
      · simp [h3] at h
      · by_cases h4 : c = 35
        · subst h4; simp [h3] at h
        · simp [h3, h4] at h
theorem firstTok_kind (s : List UInt8) (hs : s ≠ []) (h0 : (firstTok s).2 ≠ 0) : (firstTok s).1 = 2 ↔ startsDigit (s.take (firstTok s).2) = true := by
 cases s with
 | nil => exact absurd rfl hs
 | cons c r =>
  obtain ⟨m, hm⟩ : ∃ m, (firstTok (c :: r)).2 = m + 1 := ⟨(firstTok (c :: r)).2 - 1, by omega⟩; rw [hm]; simp only [List.take_succ_cons, startsDigit, firstTok]
  by_cases h1 : letter c = true
  · simp [h1, letter_digit c h1]
  · by_cases h2 : digit c = true
    · simp [h1, h2]
    · simp only [h1, h2, Bool.false_eq_true, if_false, iff_false]
      by_cases h3 : blank c = true
      · simp [h3]
      · by_cases h4 : c = 35
        · subst h4; simp [h3]
        · simp [h3, h4]
structure TokOk (n : Nat) (t : Tok) : Prop where
 len : t.text.length ≤ n
 num : t.kind = 2 → t.text ≠ [] ∧ ∀ x ∈ t.text, digit x = true
 dig : t.kind = 2 ↔ startsDigit t.text = true
 pos : 0 ≤ t.pos ∧ t.pos ≤ n
theorem lexGo_ok (s : List UInt8) : ∀ (k p : Nat) (acc : List Tok), (∀ t ∈ acc, TokOk s.length t) → ∀ t ∈ (lexGo k s p acc).1, TokOk s.length t
 | 0, p, acc, h => by rw [lexGo]; exact h
 | k + 1, p, acc, h => by
  rw [lexGo]
  split
  · rename_i hp
    split
    · simp
    · rename_i h0
      refine lexGo_ok s k _ _ ?_; intro t ht
      rcases List.mem_append.1 ht with ht | ht
      · exact h t ht
      · simp only [List.mem_singleton] at ht
        subst ht
        have hne : s.drop p ≠ [] := by
         intro e; have := congrArg List.length e
         simp at this; omega
        refine ⟨?_, ?_, ?_, ?_⟩
        · simp only [List.length_take, List.length_drop]; omega
        · intro hk
          have hk' : (firstTok (s.drop p)).1 = 2 := by simp only at hk; omega
          exact firstTok_num _ hk'
        · have := firstTok_kind (s.drop p) hne h0
          simp only; rw [← this]
          omega
        · simp only; omega
  · exact h
theorem lexT_ok (s : List UInt8) : ∀ t ∈ (lexT s).1, TokOk s.length t := by
 unfold lexT
 split
 · simp
 · have := lexGo_ok s (s.length + 1) 0 [] (by simp)
   split
   · rename_i l h; rw [h] at this; exact this
   · simp
theorem solid_ok (s : List UInt8) : ∀ t ∈ (startP s).1, TokOk s.length t := fun t ht => lexT_ok s t (List.mem_filter.1 ht).1
theorem lexGo_len (s : List UInt8) : ∀ (k p : Nat) (acc : List Tok), acc.length ≤ p → p ≤ s.length → (lexGo k s p acc).1.length ≤ s.length
 | 0, p, acc, h, hp => by rw [lexGo]; simp; omega
 | k + 1, p, acc, h, hp => by
  rw [lexGo]
  split
  · split
    · simp
    · rename_i h0
      have := firstTok_le (s.drop p); rw [List.length_drop] at this
      exact lexGo_len s k _ _ (by simp; omega) (by omega)
  · simp only; omega
theorem lexT_len (s : List UInt8) : (lexT s).1.length ≤ s.length := by
 unfold lexT
 split
 · simp
 · have := lexGo_len s (s.length + 1) 0 [] (by simp) (by omega)
   split
   · rename_i l h; rw [h] at this; exact this
   · simp
theorem start_len (s : List UInt8) : (startP s).1.length ≤ s.length := Nat.le_trans (List.length_filter_le _ _) (lexT_len s)
end Bk
namespace Bk
open Go Go.RowKit Go.Proofs
attribute [local irreducible] Go.Calls
def Toks (S : Nat → Prop) (w : World) (l : List Tok) (a : Option Addr) : Prop := Arr S 3 TokAt w l a
theorem Toks.ext {S : Nat → Prop} {w w' : World} {l : List Tok} {a : Option Addr} (h : Toks S w l a) (x : Ext w w') : Toks S w' l a := h.mono (fun _ h => h) (fun _ _ _ _ _ h => Row.ext h x)
theorem Toks.fr {S T : Nat → Prop} {w w' : World} {l : List Tok} {a : Option Addr} (h : Toks S w l a) (x : Fr T w w') (hs : ∀ b, S b → ¬ T b) : Toks S w' l a := h.mono (fun _ h => h) (fun b _ _ _ hb h => Row.fr h x (hs b hb))
theorem Toks.wide {S S' : Nat → Prop} {w : World} {l : List Tok} {a : Option Addr} (h : Toks S w l a) (hs : ∀ b, S b → S' b) : Toks S' w l a := h.mono hs (fun _ _ _ _ _ h => h)
theorem Toks.lt2 {S : Nat → Prop} {w : World} {l : List Tok} {a : Option Addr} (h : Toks S w l a) : Toks (fun b => S b ∧ b < w.heap.size) w l a := by
 rcases h with h | ⟨b, o, h1, h2, h3⟩
 · exact Or.inl h
 · cases l with
   | nil => exact Or.inl rfl
   | cons v r => exact Or.inr ⟨b, o, h1, ⟨h2, cell_lt (Row.at0 (h3 0 v rfl) rfl)⟩, h3⟩
def tokShape : Shape Tok where
 sz := 3
 rep := fun _ _ v cs => cs = v.cells
 len := fun h => by rw [h]; rfl
 one := fun h => by rw [h]; rfl
 mono := fun h _ _ => h
 lt := fun h => h
theorem OwnL.toks {w : World} {B e : Nat} {a : Option Addr} {len cap : Nat} {xs : List Tok} {S : Nat → Prop} (h : OwnL tokShape w B e (.slice a len cap) xs) (hS : ∀ b, B ≤ b → S b) : Toks S w xs a := by
 by_cases hx : xs = []
 · exact Or.inl hx
 · obtain ⟨g, cap', hv, hg, hall⟩ := h.rows hx
   simp only [Value.slice.injEq] at hv; obtain ⟨rfl, -, -⟩ := hv; refine Or.inr ⟨g, 0, rfl, hS g hg, fun i x hi => ?_⟩; obtain ⟨cs, hr, rfl⟩ := hall i x hi
   simpa [tokShape, TokAt] using hr
theorem first_s (t : List UInt8) (w : World) (ht : t ≠ []) (hl : t.length ≤ 9223372036854775807) : Calls Tryz.prog 38 #[str t] w fun e w' => e = .returned (.tuple #[.int .u8 (firstTok t).1, .int .i64 (firstTok t).2]) ∧ w = w' := by
 cases t with
 | nil => exact absurd rfl ht
 | cons c r => exact first_c c r w hl
def LexR (w : World) (r : List Tok × Int × Int) : Ending → World → Prop := fun e w' => ∃ a k, e = .returned (.tuple #[.slice a r.1.length k, .int .i64 r.2.1, .int .i64 r.2.2]) ∧ Toks (fun b => w.heap.size ≤ b ∧ b < w'.heap.size) w' r.1 a ∧ Ext w w'
theorem LexR.ret {w : World} {r : List Tok × Int × Int} {e : Ending} {w' : World} (h : LexR w r e w') : ∃ v, e = .returned v := by
 obtain ⟨_, _, h, -⟩ := h
 exact ⟨_, h⟩
set_option maxRecDepth 100000 in
set_option maxHeartbeats 2000000 in
theorem Lex_c (s : List UInt8) (w : World) (hs : s.length ≤ 1000000) : Calls Tryz.prog 51 #[str s] w (LexR w (lexT s)) := by
 have X := Ext.refl w
 by_cases h0 : 65536 < s.length
 · rw [show lexT s = ([], 0, 5) from by simp [lexT, h0]]
   refine calls_in Tryz.func51 Tryz.ntmps51 rfl rfl ?_
   focus
    refine cS (C1 Pa (C1 Pa (C1 Pa (cT (cw_seq (cS (C1 Mv (C1 Py (C1 V5 (cT (Wyo ?_))))))))))); refine cS (C1 Pa (C1 Pa (C1 Pa (cT (cw_ret (qw_then_ret (qw_ret3 rfl rfl rfl rfl ?_))))))); rotate_left 1
   exact ⟨_, _, rfl, Or.inl rfl, X⟩
 have hun : ∀ r, lexGo (s.length + 1) s 0 [] = r → lexT s = match r with | (l, none) => (l, 0, 0) | (_, some p) => ([], (p : Int), 3) := fun r hr => by
  obtain ⟨l, o⟩ := r
  cases o <;> simp [lexT, h0, hr]
 have HU := Lib.hid hun; clear hun
 refine calls_in Tryz.func51 Tryz.ntmps51 rfl rfl ?_
 focus
  refine cS (C1 Pa (C1 Pa (C1 Pa (cT (cw_seq (cS (C1 Mv (C1 Py (C1 V5 (cT (Wno ?_))))))))))); refine cw_skip (qw_then (cS (C1 Pa (cT (cw_seq (cS (C1 Pa (cT (cw_block ?_))))))))); rotate_left 1
 refine cw_loop (ι := Nat × Nat × List Tok × Option Addr × Nat) (fun x => [(0, str s), (5, .slice x.2.2.2.1 x.2.2.1.length x.2.2.2.2), (6, .int .i64 x.2.1)])
  (fun x w' => OwnL tokShape w' w.heap.size 101 (.slice x.2.2.2.1 x.2.2.1.length x.2.2.2.2) x.2.2.1 ∧ Ext w w' ∧ x.2.1 ≤ s.length ∧ x.2.2.1.length ≤ x.2.1 ∧ s.length + 1 ≤ x.1 + x.2.1 ∧
   lexGo (s.length + 1) s 0 [] = lexGo x.1 s x.2.1 x.2.2.1) (fun x => x.1) (s.length + 1, 0, [], none, 0) (by (refine sub_cons rfl ?_; refine sub_cons rfl ?_; refine sub_cons rfl ?_; exact sub_nil)) ⟨OwnL.nil, X, Nat.zero_le _, Nat.le_refl _, Nat.le_refl _, rfl⟩ ?_
 rintro ⟨j, p, acc, a, cap⟩ w1 ⟨hown, X, hp, hacc, hj, he⟩; simp only at hown hp hacc hj he; refine CW.sub (m := [(0, str s), (5, .slice a acc.length cap), (6, .int .i64 p)]) ?_ (by (refine sub_cons rfl ?_; refine sub_cons rfl ?_; refine sub_cons rfl ?_; exact sub_nil)); obtain ⟨j, rfl⟩ : ∃ i, j = i + 1 := ⟨j - 1, by omega⟩
 by_cases hlt : p < s.length
 · have hne : s.drop p ≠ [] := by
    intro e; have := congrArg List.length e
    simp at this; omega
   have hdl : (s.drop p).length = s.length - p := List.length_drop; have hfl := firstTok_le (s.drop p); rw [hdl] at hfl
   by_cases hz : (firstTok (s.drop p)).2 = 0
   · rw [HU.out ([], some p) (by rw [he, lexGo]; simp [hlt, hz])]
     focus
      refine cw_seq (cS (C1 Mv (C1 Mv (C1 Py (C1 V3 (cT (Wyo (cw_skip (qw_then (cw_block (cS ?_))))))))))); refine C1 Mv (C1 Mv ?_); refine C1 (pur_sfromN tabOk rfl rfl rfl (by omega)) ?_; refine cC rfl (first_s _ _ hne (by omega)) ?_; rintro _ wb1 ⟨⟨⟩, rfl⟩; refine C1 Mv (C1 Px (C1 Px (C1 Pa (C1 Pa (cT (cw_seq (cS (C1 Mv (C1 V1 (cT (Wyo ?_))))))))))); refine cS (C1 Mv (C1 Pa (C1 Pa (C1 Pa (cT (cw_ret (qw_then_ret (qw_block_ret (qw_then_ret (qw_block_ret (qw_then_ret ?_))))))))))); refine qw_ret3 rfl rfl rfl rfl ?_; rotate_left 1
     exact ⟨_, _, rfl, Or.inl rfl, X⟩
   · have he2 : lexGo (s.length + 1) s 0 [] = lexGo j s (p + (firstTok (s.drop p)).2) (acc ++ [⟨((firstTok (s.drop p)).1 : Nat), (s.drop p).take (firstTok (s.drop p)).2, (p : Int)⟩]) := by rw [he, lexGo]; simp [hlt, hz]
     focus
      refine cw_seq (cS (C1 Mv (C1 Mv (C1 Py (C1 V3 (cT (Wyo (cw_skip (qw_then (cw_block (cS ?_))))))))))); refine C1 Mv (C1 Mv ?_); refine C1 (pur_sfromN tabOk rfl rfl rfl (by omega)) ?_; refine cC rfl (first_s _ _ hne (by omega)) ?_; rintro _ wc1 ⟨⟨⟩, rfl⟩; refine C1 Mv (C1 Px (C1 Px (C1 Pa (C1 Pa (cT (cw_seq (cS (C1 Mv (C1 V1 (cT (Wno ?_))))))))))); refine cw_skip (qw_then (cS (C1 Mv (C1 Mv (C1 Mv (C1 Mv (C1 Mv (C1 Mv (C1 V7 ?_))))))))); refine C1 (pur_spartN tabOk rfl rfl rfl rfl (by omega)) ?_; refine C1 Mv (C1 (pur_build' [_, _, _] tabOk zOk rfl rfl rfl rfl) ?_); (refine lw_does (does_slice' [_, _, _] tabOk zOk rfl rfl rfl rfl rfl rfl rfl rfl rfl) rfl ?_ (fun _ h => h); rintro _ wc3 ⟨bc2, rfl, nc4, tc5⟩); clear tc5; have hc6 := nc4.blk; have xc7 := nc4.ext; have pc8 := nc4.pos; have zc9 := nc4.size; clear nc4; replace hown := hown.ext xc7; replace X := X.ext xc7; clear xc7; refine lw_appendL (sh := tokShape) (z := ⟨((firstTok (s.drop p)).1 : Nat), (s.drop p).take (firstTok (s.drop p)).2, (p : Int)⟩) tabOk zOk rfl rfl rfl rfl (by kernel_rfl) rfl rfl rfl hown (Blk.row (by assumption)) rfl (by omega) (by have := Ext.size X; omega) rfl ?_; rintro gc10 cap'c11 wc12 hc13 fc14; have zc15 := fc14.size; clear hc6 hown; replace X := X.fr fc14 (by omega); clear fc14; refine C1 Pa (cT (cw_region (C1 Mv (C1 Mv (C1 V7 (C1 Pa (lw_nil (qw_block_norm ?_)))))))); rotate_left 1
     refine qw_round (j, p + (firstTok (s.drop p)).2, acc ++ [⟨((firstTok (s.drop p)).1 : Nat), (s.drop p).take (firstTok (s.drop p)).2, (p : Int)⟩], some ⟨_, 0, none⟩, _) (by (refine sub_cons rfl ?_; refine sub_cons rfl ?_; refine sub_cons rfl ?_; exact sub_nil)) ⟨by assumption, X, by simp only; omega, by simp only [List.length_append, List.length_cons, List.length_nil]; omega, by simp only; omega, he2⟩ (by simp)
 · rw [HU.out (acc, none) (by rw [he, lexGo]; simp [hlt])]
   focus
    refine cw_seq (cS (C1 Mv (C1 Mv (C1 Py (C1 V3 (cT (Wno (cw_exit (qw_then_exit (qw_then_exit (qw_block_exit ?_))))))))))); refine qw_then (cS (C1 Mv (C1 Pa (C1 Pa (C1 Pa (cT (cw_ret (qw_ret3 rfl rfl rfl rfl ?_)))))))); rotate_left 1
   exact ⟨_, _, rfl, Toks.lt2 (S := (w.heap.size ≤ ·)) (OwnL.toks hown (fun b h => h)), X⟩
theorem solid_snoc (l : List Tok) (t : Tok) : solidT (l ++ [t]) = solidT l ++ (if t.kind ≠ 4 ∧ t.kind ≠ 5 then [t] else []) := by
 unfold solidT
 rw [List.filter_append]
 congr 1
 by_cases h4 : t.kind = 4 <;> by_cases h5 : t.kind = 5 <;> simp [h4, h5]
def SolidR (w : World) (r : List Tok) : Ending → World → Prop := fun e w' => ∃ a k, e = .returned (.slice a r.length k) ∧ Toks (fun b => w.heap.size ≤ b ∧ b < w'.heap.size) w' r a ∧ Ext w w'
theorem SolidR.ret {w : World} {r : List Tok} {e : Ending} {w' : World} (h : SolidR w r e w') : ∃ v, e = .returned v := by
 obtain ⟨_, _, h, -⟩ := h
 exact ⟨_, h⟩
set_option maxRecDepth 100000 in
set_option maxHeartbeats 2000000 in
theorem Solid_c (ts : List Tok) (S : Nat → Prop) (b0 : Option Addr) (k0 : Nat) (w : World) (hl : ts.length ≤ 1000000) (hT : Toks S w ts b0) (hS : ∀ b, S b → b < w.heap.size) : Calls Tryz.prog 52 #[.slice b0 ts.length k0] w (SolidR w (solidT ts)) := by
 have X := Ext.refl w; refine calls_in Tryz.func52 Tryz.ntmps52 rfl rfl ?_
 focus
  refine cS (C1 Pa (cN (C1 Pa (cT (cw_seq (cS (C1 Mv (C1 Pz (C1 Mv (cT (cw_block ?_))))))))))); rotate_left 1
 refine cw_loop (ι := Nat × Option Addr × Nat) (fun x => [(3, .slice x.2.1 (solidT (ts.take x.1)).length x.2.2), (6, .slice b0 ts.length k0), (7, .int .i64 ts.length), (8, .int .i64 x.1)])
  (fun x w' => OwnL tokShape w' w.heap.size 101 (.slice x.2.1 (solidT (ts.take x.1)).length x.2.2) (solidT (ts.take x.1)) ∧ Ext w w' ∧ x.1 ≤ ts.length ∧ Toks S w' ts b0) (fun x => ts.length - x.1) (0, none, 0) (by (refine sub_cons rfl ?_; refine sub_cons rfl ?_; refine sub_cons rfl ?_; refine sub_cons rfl ?_; exact sub_nil)) ⟨OwnL.nil, X, Nat.zero_le _, hT⟩ ?_
 rintro ⟨j, a, cap⟩ w1 ⟨hown, X, hj, hT⟩; simp only at hown hj hT; have hsz := X.size; refine CW.sub (m := [(3, .slice a (solidT (ts.take j)).length cap), (6, .slice b0 ts.length k0), (7, .int .i64 ts.length), (8, .int .i64 j)]) ?_ (by (refine sub_cons rfl ?_; refine sub_cons rfl ?_; refine sub_cons rfl ?_; refine sub_cons rfl ?_; exact sub_nil))
 by_cases hlt : j < ts.length
 · have htk : ts.take (j + 1) = ts.take j ++ [ts[j]] := by rw [List.take_add_one, List.getElem?_eq_getElem hlt]; rfl
   have hsn : solidT (ts.take (j + 1)) = solidT (ts.take j) ++ (if ts[j].kind ≠ 4 ∧ ts[j].kind ≠ 5 then [ts[j]] else []) := by rw [htk, solid_snoc]
   have hbd : (solidT (ts.take j)).length ≤ 1000000 := Nat.le_trans (List.length_filter_le _ _) (by rw [List.length_take]; omega); obtain ⟨tb, tof, rfl, hkS, hrow⟩ := hT.get (by omega); have hr : Row w1 ⟨tb, tof + j * 3, none⟩ ts[j].cells := hrow j _ (List.getElem?_eq_getElem hlt); have htb := hS tb hkS; clear hrow htk
   generalize ts[j] = t at *
   by_cases h4 : t.kind = 4
   · rw [show (if t.kind ≠ 4 ∧ t.kind ≠ 5 then [t] else []) = [] from by simp [h4], List.append_nil] at hsn
     focus
      refine cS (C1 V3 (cT (cw_seq (Wyo (cw_skip (qw_then (cw_seq (cw_block (cS (C1 Pi (C1 (Pws hr) ?_))))))))))); (refine lw_alloc' [_, _, _] zOk rfl rfl ?_; intro ba1 wa2 na3); (refine lw_init' [_, _, _] tabOk rfl rfl rfl rfl rfl rfl na3 rfl ?_; clear na3; clear wa2; intro wa4 na3); have ha5 := na3.blk; have xa6 := na3.ext; have pa7 := na3.pos; have za8 := na3.size; clear na3; replace hown := hown.ext xa6; replace X := X.ext xa6; replace hT := hT.ext xa6; replace hr := hr.ext xa6; clear xa6; refine cN (C1 Pg (C1 (Pl ha5) (C1 V2 (C1 Mv (Ono (Ono (Ono (C1 Qno (cT (cw_cond_f rfl (cw_skip ?_))))))))))); refine qw_block_norm (qw_then (cw_region (C1 V7 (C1 Mv (lw_nil ?_))))); rotate_left 1
     refine qw_round (j + 1, a, cap) ?_ ⟨by rw [hsn]; exact hown, X, by simp only; omega, hT⟩ (by simp only; omega); refine sub_cons' rfl (by rw [hsn]) (sub_cons rfl (sub_cons rfl (sub_cons rfl sub_nil)))
   by_cases h5 : t.kind = 5
   · rw [show (if t.kind ≠ 4 ∧ t.kind ≠ 5 then [t] else []) = [] from by simp [h5], List.append_nil] at hsn
     focus
      refine cS (C1 V3 (cT (cw_seq (Wyo (cw_skip (qw_then (cw_seq (cw_block (cS (C1 Pi (C1 (Pws hr) ?_))))))))))); (refine lw_alloc' [_, _, _] zOk rfl rfl ?_; intro bb1 wb2 nb3); (refine lw_init' [_, _, _] tabOk rfl rfl rfl rfl rfl rfl nb3 rfl ?_; clear nb3; clear wb2; intro wb4 nb3); have hb5 := nb3.blk; have xb6 := nb3.ext; have pb7 := nb3.pos; have zb8 := nb3.size; clear nb3; replace hown := hown.ext xb6; replace X := X.ext xb6; replace hT := hT.ext xb6; replace hr := hr.ext xb6; clear xb6; refine cN (C1 Pg (C1 (Pl hb5) (C1 V2 (C1 Mv (Gya (C1 Pg (Gya (C1 (Pl hb5) (Gya (C1 V2 (C1 Qya ?_))))))))))); refine cT (Wno (cw_skip (qw_block_norm (qw_then (cw_region (C1 V7 (C1 Mv (lw_nil ?_)))))))); rotate_left 1
     refine qw_round (j + 1, a, cap) ?_ ⟨by rw [hsn]; exact hown, X, by simp only; omega, hT⟩ (by simp only; omega); refine sub_cons' rfl (by rw [hsn]) (sub_cons rfl (sub_cons rfl (sub_cons rfl sub_nil)))
   · rw [show (if t.kind ≠ 4 ∧ t.kind ≠ 5 then [t] else []) = [t] from by simp [h4, h5]] at hsn
     focus
      refine cS (C1 V3 (cT (cw_seq (Wyo (cw_skip (qw_then (cw_seq (cw_block (cS (C1 Pi (C1 (Pws hr) ?_))))))))))); (refine lw_alloc' [_, _, _] zOk rfl rfl ?_; intro bc1 wc2 nc3); (refine lw_init' [_, _, _] tabOk rfl rfl rfl rfl rfl rfl nc3 rfl ?_; clear nc3; clear wc2; intro wc4 nc3); have hc5 := nc3.blk; have xc6 := nc3.ext; have pc7 := nc3.pos; have zc8 := nc3.size; clear nc3; replace hown := hown.ext xc6; replace X := X.ext xc6; replace hT := hT.ext xc6; replace hr := hr.ext xc6; clear xc6; refine cN (C1 Pg (C1 (Pl hc5) (C1 V2 (C1 Mv (Gya (C1 Pg (Gya (C1 (Pl hc5) (Gya (C1 V2 (C1 Qya ?_))))))))))); refine cT (Wya (cw_region (C1 Mv (lw_loads_b' [_, _, _] tabOk rfl rfl rfl hc5 rfl rfl rfl ?_)))); (refine lw_does (does_slice' [_, _, _] tabOk zOk rfl rfl rfl rfl rfl rfl rfl rfl rfl) rfl ?_ (fun _ h => h); rintro _ wc10 ⟨bc9, rfl, nc11, tc12⟩); clear tc12; have hc13 := nc11.blk; have xc14 := nc11.ext; have pc15 := nc11.pos; have zc16 := nc11.size; clear nc11; replace hc5 := hc5.ext xc14; replace hown := hown.ext xc14; replace X := X.ext xc14; replace hT := hT.ext xc14; replace hr := hr.ext xc14; clear xc14; refine lw_appendL (sh := tokShape) (z := t) tabOk zOk rfl rfl rfl rfl (by kernel_rfl) rfl rfl rfl hown (Blk.row (by assumption)) rfl (by omega) (by omega) rfl ?_; rintro gc17 cap'c18 wc19 hc20 fc21; have zc22 := fc21.size; clear hc13 hc5 hown; replace X := X.fr fc21 (by omega); replace hT := Toks.fr hT fc21 (fun k hk e => by have := hS k hk; omega); replace hr := Row.fr hr fc21 (by simp only; omega)
      clear fc21; refine C1 Pa (lw_nil (qw_block_norm (qw_then (cw_region (C1 V7 (C1 Mv (lw_nil ?_))))))); rotate_left 1
     refine qw_round (j + 1, some ⟨_, 0, none⟩, _) ?_ ⟨by rw [hsn]; assumption, X, by simp only; omega, hT⟩ (by simp only; omega); refine sub_cons' rfl (by rw [hsn]) (sub_cons rfl (sub_cons rfl (sub_cons rfl sub_nil)))
 · have : j = ts.length := by omega
   subst this; rw [List.take_length] at hown
   focus
    refine cS (C1 V3 (cT (cw_seq (Wno (cw_exit (qw_then_exit (qw_then_exit (qw_block_exit (qw_then (cS (C1 Mv ?_))))))))))); refine C1 Pa (cT (cw_ret (qw_ret1 rfl rfl ?_))); rotate_left 1
   rw [List.take_length]
   exact ⟨_, _, rfl, Toks.lt2 (S := (w.heap.size ≤ ·)) (OwnL.toks hown (fun b h => h)), X⟩
end Bk
namespace Bk
open Go Go.RowKit Go.Proofs
attribute [local irreducible] Go.Calls
section
variable {P : Program} {n : Nat} {ops : Array Oper} {Q : Exit → Act → World → Prop} {rest : List Oper} {l : Sl} {w : World} {tab : Tab} {ty : TypeId} {pos : String} {after : Array Edge}
theorem lw_mapput {x y z : Operand} {t kt e sz1 sz2 r : Nat} {k : List UInt8} {v : Value} {kvs : List (List UInt8 × Value)} (T : TabOk P tab) (ht : lookT tab t = some (.map kt e, sz1)) (hkt : lookT tab kt = some (.str, sz2)) (hx : ev l x = some (.map (some r))) (hy : ev l y = some (str k)) (hz : ev l z = some v) (hm : MapIs w r kvs)
 (kk : ∀ w1, MapIs w1 r (setS kvs k v) → Fr (· = r) w w1 → LW P n ops Q rest l w1) : LW P n ops Q (⟨none, .mapUpdate t x y z, ty, pos, after, none⟩ :: rest) l w := by
 refine lw_does0 (K := MapPut w r (setS kvs k v)) ?_ (fun v w1 h => by cases v with | none => exact kk w1 h.1 h.2.1 | some _ => exact h.elim)
 unfold Does
 intro a dst pos after g next Q ha _ hn; obtain ⟨w1, h1, h2, h3, h4⟩ := run_mapUpdate (P := P) (k := k) (v := v) T ht hkt hm
 have e1 : (execOp a.eval ⟨dst, .mapUpdate t x y z, ty, pos, after, g⟩).run P w = .ok .skip w1 := by
  simp only [execOp, ha.ev hx, ha.ev hy, ha.ev hz, Sem.run_bind, h1, Result.andThen, Sem.run_pure]
 unfold Oper.wp
 rw [e1]
 exact hn w1 ⟨h2, h3, h4⟩
theorem lw_makeMap {t d : Nat} (hd : Nat.blt d n = true) (k : ∀ r w1, r = w.heap.size → MapIs w1 r [] → Ext w w1 → w1.heap.size = r + 1 → LW P n ops Q rest ((d, .map (some r)) :: l) w1) : LW P n ops Q (⟨some d, .makeMap t none, ty, pos, after, none⟩ :: rest) l w :=
 lw_does does_makeMap hd (fun v w1 ⟨r, h1, h2, h3, h4, h5⟩ => by subst h1; exact k r w1 h2 h3 h4 h5) (fun _ h => h)
end
def u8Shape : Shape Int where
 sz := 1
 rep := fun _ _ v cs => cs = [.int .u8 v]
 len := fun h => by rw [h]; rfl
 one := fun h => by rw [h]; rfl
 mono := fun h _ _ => h
 lt := fun h => h
def ops8 (j : Nat) : List Int := (List.range j).map fun (i : Nat) => (8 : Int) + (i : Int)
theorem ops8_snoc (j : Nat) : ops8 (j + 1) = ops8 j ++ [8 + (j : Int)] := by simp [ops8, List.range_succ]
theorem ops8_len (j : Nat) : (ops8 j).length = j := by simp [ops8]
def OpsR (w : World) : Ending → World → Prop := fun e w' => ∃ b k, e = .returned (.slice (some ⟨b, 0, none⟩) 16 k) ∧ w.heap.size ≤ b ∧ b < w'.heap.size ∧ Row w' ⟨b, 0, none⟩ ((ops8 16).map (.int .u8 ·)) ∧ Ext w w'
theorem OpsR.ret {w : World} {e : Ending} {w' : World} (h : OpsR w e w') : ∃ v, e = .returned v := by
 obtain ⟨_, _, h, -⟩ := h
 exact ⟨_, h⟩
set_option maxRecDepth 100000 in
set_option maxHeartbeats 2000000 in
theorem Operators_c (w : World) : Calls Tryz.prog 53 #[] w (OpsR w) := by
 have X := Ext.refl w; refine calls_in (args := []) Tryz.func53 Tryz.ntmps53 rfl rfl ?_
 focus
  refine cS (C1 Pa (cN (C1 Pa (cT (cw_seq (cS (C1 Pa (cT (cw_block ?_))))))))); rotate_left 1
 refine cw_loop (ι := Nat × Option Addr × Nat) (fun x => [(1, .slice x.2.1 (ops8 x.1).length x.2.2), (2, .int .u8 (8 + (x.1 : Int)))])
  (fun x w' => OwnL u8Shape w' w.heap.size 5 (.slice x.2.1 (ops8 x.1).length x.2.2) (ops8 x.1) ∧ Ext w w' ∧ x.1 ≤ 16) (fun x => 16 - x.1) (0, none, 0) (by (refine sub_cons rfl ?_; refine sub_cons rfl ?_; exact sub_nil)) ⟨OwnL.nil, X, Nat.zero_le _⟩ ?_
 rintro ⟨j, a, cap⟩ w1 ⟨hown, X, hj⟩; simp only at hown hj; have hsz := X.size; have hl := ops8_len j; refine CW.sub (m := [(1, .slice a (ops8 j).length cap), (2, .int .u8 (8 + (j : Int)))]) ?_ (by (refine sub_cons rfl ?_; refine sub_cons rfl ?_; exact sub_nil))
 by_cases hlt : j < 16
 · have hsn := ops8_snoc j
   focus
    refine cw_seq (cS (C1 Mv (C1 V4 (cT (Wyo (cw_skip (qw_then (cw_seq (cw_block (cw_region (C1 Mv ?_))))))))))); refine C1 Mv ?_; (refine lw_does (does_slice' [_] tabOk zOk rfl rfl rfl rfl rfl rfl rfl rfl rfl) rfl ?_ (fun _ h => h); rintro _ wa2 ⟨ba1, rfl, na3, ta4⟩); clear ta4; have ha5 := na3.blk; have xa6 := na3.ext; have pa7 := na3.pos; have za8 := na3.size; clear na3; replace hown := hown.ext xa6; replace X := X.ext xa6; clear xa6; refine lw_appendL (sh := u8Shape) (z := 8 + (j : Int)) tabOk zOk rfl rfl rfl rfl (by kernel_rfl) rfl rfl rfl hown (Blk.row (by assumption)) rfl (by omega) (by omega) rfl ?_; rintro ga9 cap'a10 wa11 ha12 fa13; have za14 := fa13.size; clear ha5 hown; replace X := X.fr fa13 (by omega); clear fa13; refine C1 Pa (lw_nil (qw_block_norm (qw_then (cw_region (C1 Mv ?_))))); refine C1 (pur_add rfl rfl (u8_wrap _ (by omega) (by omega))) ?_; refine C1 Pa (lw_nil ?_); rotate_left 1
   refine qw_round (j + 1, some ⟨_, 0, none⟩, _) ?_ ⟨by rw [hsn]; assumption, X, by simp only; omega⟩ (by simp only; omega); refine sub_cons' rfl (by rw [hsn]) (sub_cons' rfl ?_ sub_nil)
   simp only [Value.int.injEq, true_and]; omega
 · have : j = 16 := by omega
   subst this
   focus
    refine cw_seq (cS (C1 Mv (C1 V4 (cT (Wnd (cw_exit (qw_then_exit (qw_then_exit (qw_block_exit (qw_then (cS ?_))))))))))); refine C1 Mv (C1 Pa (cT (cw_ret (qw_ret1 rfl rfl ?_)))); rotate_left 1
   obtain ⟨g, cap', hv, hg, hall⟩ := hown.rows (by decide); simp only [Value.slice.injEq] at hv; obtain ⟨rfl, -, -⟩ := hv
   have hrow : Row w1 ⟨g, 0, none⟩ ((ops8 16).map (.int .u8 ·)) := fun i v hi => by
    rw [List.getElem?_map, Option.map_eq_some_iff] at hi; obtain ⟨x, hx, rfl⟩ := hi; obtain ⟨cs, hr, rfl⟩ := hall i x hx; have := hr.at0 rfl
    have e : (⟨g, 0, none⟩ : Addr).add i = ⟨g, i * u8Shape.sz, none⟩ := by
     have : u8Shape.sz = 1 := rfl
     unfold Addr.add; by_cases h0 : i = 0 <;> simp [h0, this]
    rw [e]; exact this
   exact ⟨g, cap, by rw [ops8_len], hg, hown.lt rfl, hrow, X⟩
end Bk
namespace Bk
open Go Go.RowKit Go.Proofs
attribute [local irreducible] Go.Calls
def wholeT (t : Nd) (σ : PS) : Nd × Int × Int := if σ.err ≠ 0 then (zeroNd, σ.off, σ.err) else (t, 0, 0)
def WholeR (w : World) (pb : Nat) (S : Nat → Prop) (r : Nd × Int × Int) : Ending → World → Prop := fun e w' => ∃ a k, e = .returned (.tuple #[r.1.val a k, .int .i64 r.2.1, .int .i64 r.2.2]) ∧ r.1.sits S w' a ∧ Fr (· = pb) w w'
theorem WholeR.ret {w : World} {pb : Nat} {S : Nat → Prop} {r : Nd × Int × Int} {e : Ending} {w' : World} (h : WholeR w pb S r e w') : ∃ v, e = .returned v := by
 obtain ⟨_, _, h, -⟩ := h
 exact ⟨_, h⟩
set_option maxRecDepth 100000 in
set_option maxHeartbeats 1000000 in
theorem whole_c (c : PC) (σ : PS) (t : Nd) (S : Nat → Prop) (a : Option Addr) (k : Nat) (w : World) (hP : PP c σ w) (hz : t.size ≤ 1000000000) (hs : t.sits S w a) (hS : ∀ b, S b → b ≠ c.pb ∧ b < w.heap.size) :
 Calls Tryz.prog 32 #[.pointer (some ⟨c.pb, 0, none⟩), t.val a k] w (WholeR w c.pb S (wholeT t (limitP t 0 σ))) := by
 have X := Fr.refl (· = c.pb) w; have hpb := hP.pbB; have hB := hP.B
 by_cases h : (limitP t 0 σ).err = 0
 · rw [show wholeT t (limitP t 0 σ) = (t, 0, 0) from by simp [wholeT, h]]
   refine calls_in Tryz.func32 Tryz.ntmps32 rfl rfl ?_
   focus
    refine cS ?_; (refine lw_box' [_, _, _, _] rfl rfl rfl ?_; intro b1 w2 n3); have h4 := n3.blk; have x5 := n3.ext; have p6 := n3.pos; have z7 := n3.size; clear n3; replace hP := hP.ext x5; replace hs := Nd.sits.ext hs x5; replace X := X.ext x5; clear x5; (refine lw_alloc' [_, _, _, _] zOk rfl rfl ?_; intro b8 w9 n10); have h12 := n10.blk; have x13 := n10.ext; have p14 := n10.pos; have z15 := n10.size; clear n10; replace h4 := h4.ext x13; replace hP := hP.ext x13; replace hs := Nd.sits.ext hs x13; replace X := X.ext x13; clear x13; refine C1 Pa (C1 Pa (cN (C1 Mv (lw_loads_b' [_, _, _, _] tabOk rfl rfl rfl h4 rfl rfl rfl ?_)))); refine cC rfl (limit_c _ _ _ _ _ _ _ _ (by assumption) (by omega) (by assumption)) ?_; rintro _ w18 ⟨⟨⟩, ⟨h16, f17⟩⟩; have z19 := f17.size; replace h12 := h12.fr f17 (by omega); replace h4 := h4.fr f17 (by omega); clear hP; replace hs := Nd.sits.fr hs f17 (fun k hk e => by have := hS k hk; omega); replace X := X.fr f17 (by omega); clear f17; refine cT (cw_seq (cS (C1 Mv (C1 Pn (C1 Pf (lw_load_b tabOk rfl rfl rfl (PP.blk h16) rfl rfl (C1 V2 (cT (Wno (cw_skip (qw_then ?_))))))))))); refine cS (lw_loads_b' [_, _, _, _] tabOk rfl rfl rfl h4 rfl rfl rfl ?_); (refine lw_store' [_, _, _, _] [_, _, _, _] tabOk rfl rfl rfl rfl rfl rfl h12 rfl rfl ?_; intro w20 n21); have h24 := n21.blk; have f22 := n21.fr; have z23 := n21.size; clear n21 h12; replace h16 := h16.fr f22 (by omega); replace h4 := h4.fr f22 (by omega); replace hs := Nd.sits.fr hs f22 (fun k hk e => by have := hS k hk; omega)
    replace X := X.fr f22 (by omega); clear f22; refine C1 Pa (C1 Pa (cT (cw_ret (qw_retc3 rfl tabOk rfl rfl rfl h24 rfl rfl rfl ?_)))); rotate_left 1
   exact ⟨_, _, rfl, by assumption, X⟩
 · rw [show wholeT t (limitP t 0 σ) = (zeroNd, (limitP t 0 σ).off, (limitP t 0 σ).err) from by simp [wholeT, h]]
   refine calls_in Tryz.func32 Tryz.ntmps32 rfl rfl ?_
   focus
    refine cS ?_; (refine lw_box' [_, _, _, _] rfl rfl rfl ?_; intro ba1 wa2 na3); have ha4 := na3.blk; have xa5 := na3.ext; have pa6 := na3.pos; have za7 := na3.size; clear na3; replace hP := hP.ext xa5; replace hs := Nd.sits.ext hs xa5; replace X := X.ext xa5; clear xa5; (refine lw_alloc' [_, _, _, _] zOk rfl rfl ?_; intro ba8 wa9 na10); have ha12 := na10.blk; have xa13 := na10.ext; have pa14 := na10.pos; have za15 := na10.size; clear na10; replace ha4 := ha4.ext xa13; replace hP := hP.ext xa13; replace hs := Nd.sits.ext hs xa13; replace X := X.ext xa13; clear xa13; refine C1 Pa (C1 Pa (cN (C1 Mv (lw_loads_b' [_, _, _, _] tabOk rfl rfl rfl ha4 rfl rfl rfl ?_)))); refine cC rfl (limit_c _ _ _ _ _ _ _ _ (by assumption) (by omega) (by assumption)) ?_; rintro _ wa18 ⟨⟨⟩, ⟨ha16, fa17⟩⟩; have za19 := fa17.size; replace ha12 := ha12.fr fa17 (by omega); replace ha4 := ha4.fr fa17 (by omega); clear hP; replace hs := Nd.sits.fr hs fa17 (fun k hk e => by have := hS k hk; omega); replace X := X.fr fa17 (by omega); clear fa17; refine cT (cw_seq (cS (C1 Mv (C1 Pn (C1 Pf (lw_load_b tabOk rfl rfl rfl (PP.blk ha16) rfl rfl (C1 V2 (cT (Wya (cw_seq ?_)))))))))); (refine cw_tdraw (fun wz => Fr (fun x => x = ba8) wa18 wz) 11 (.pure 0 (.pure 1 (.pure 2 (.pure 3 (.pure 4 (.pure 5 (.pure 6 (.pure 7 (.pure 8 (.fork 9 (.pure 10 .tail) .none)))))))))) mixed (by kernel_rfl) (panicOk_then (panicOk_then panicOk_body)) ?_; intro wa20 xa21 _); have qsa22 : (fun wz => Fr (fun x => x = ba8) wa18 wz) wa20 := Fr.of_ext xa21
    simp only at qsa22; have d_ha16 := ha16; have d_ha12 := ha12; have d_ha4 := ha4; have d_hs := hs; have za23 := xa21.size; replace ha16 := ha16.ext xa21; replace ha12 := ha12.ext xa21; replace ha4 := ha4.ext xa21; replace hs := Nd.sits.ext hs xa21; replace X := X.ext xa21; clear xa21; refine ⟨qsa22, ?_⟩; refine Tq rfl (pur_build' [_, _, _, _] tabOk zOk rfl rfl rfl rfl) (Tq rfl Mv (Tq rfl Pn (Tq rfl Pf ?_))); refine Tq rfl (pur_load tabOk rfl rfl rfl (fun wz hz => Blk.cell (Blk.fr (PP.blk d_ha16) hz (by first | omega | (dsimp only; omega))) rfl)) ?_; refine Tq rfl Mv (Tq rfl Pn (Tq rfl Pf ?_)); refine Tq rfl (pur_load tabOk rfl rfl rfl (fun wz hz => Blk.cell (Blk.fr (PP.blk d_ha16) hz (by first | omega | (dsimp only; omega))) rfl)) ?_; (refine tw_store [_, _, _, _] [_, _, _, _] rfl tabOk rfl rfl rfl rfl rfl rfl ha12 rfl rfl ?_ tw_none; intro wa25 na26); have ha29 := na26.blk; have fa27 := na26.fr; have za28 := na26.size; clear na26 ha12; replace qsa22 := qsa22.fr fa27 (by omega); replace ha16 := ha16.fr fa27 (by omega); replace ha4 := ha4.fr fa27 (by omega); replace hs := Nd.sits.fr hs fa27 (fun k hk e => by have := hS k hk; omega); replace X := X.fr fa27 (by omega); clear fa27; refine ⟨qsa22, ?_⟩; refine Tq rfl Pa ?_; clear d_ha16 d_ha12 d_ha4 d_hs qsa22; refine tw_tail rfl (C1 Pa (cT (cw_ret (qw_then_ret (qw_retc3 rfl tabOk rfl rfl rfl ha29 rfl rfl rfl ?_))))); rotate_left 1
   exact ⟨_, _, rfl, sits_nil, X⟩
end Bk
namespace Bk
open Go Go.RowKit Go.Proofs
attribute [local irreducible] Go.Calls
theorem setS_bin (j : Nat) (h : j < 16) : setS (binMap.take j) (symbol (8 + (j : Int))) (.int .u8 (8 + (j : Int))) = binMap.take (j + 1) := by
 have : j = 0 ∨ j = 1 ∨ j = 2 ∨ j = 3 ∨ j = 4 ∨ j = 5 ∨ j = 6 ∨ j = 7 ∨ j = 8 ∨ j = 9 ∨ j = 10 ∨ j = 11 ∨ j = 12 ∨ j = 13 ∨ j = 14 ∨ j = 15 := by omega
 rcases this with rfl | rfl | rfl | rfl | rfl | rfl | rfl | rfl | rfl | rfl | rfl | rfl | rfl | rfl | rfl | rfl <;> rfl
def StartR (s : List UInt8) (w : World) : Ending → World → Prop := fun e w' => ∃ c : PC, e = .returned (.pointer (some ⟨c.pb, 0, none⟩)) ∧ (c.ts = (startP s).1 ∧ c.n = s.length ∧ w.heap.size ≤ c.pb) ∧ PP c (startP s).2 w' ∧ Ext w w' ∧ c.B ≤ w'.heap.size
theorem StartR.ret {s : List UInt8} {w : World} {e : Ending} {w' : World} (h : StartR s w e w') : ∃ v, e = .returned v := by
 obtain ⟨_, h, -⟩ := h
 exact ⟨_, h⟩
theorem Syms.lt {w : World} (h : Syms w) : 0 < w.heap.size := cell_lt (h.sym 0 (by omega))
theorem Errs.lt {w : World} (h : Errs w) : 3 < w.heap.size := by
 obtain ⟨te, pe, h⟩ := h.ex
 exact cell_lt h
set_option maxRecDepth 100000 in
set_option maxHeartbeats 4000000 in
theorem start_c (s : List UInt8) (w : World) (hs : s.length ≤ 1000000) (hS : Syms w) (hE : Errs w) : Calls Tryz.prog 29 #[str s] w (StartR s w) := by
 have X := Ext.refl w; have hg1 := hS.lt; have hg2 := hE.lt; have hl1 := lexT_len s; refine calls_in Tryz.func29 Tryz.ntmps29 rfl rfl ?_
 focus
  refine cS (C1 Pa (cN (C1 Mv ?_))); refine cR (by kernel_rfl) rfl (Lex_c _ _ (by omega)) (fun _ _ h => h.ret) rfl ?_; rintro _ w5 ⟨a1, ⟨k2, ⟨⟨⟩, ⟨h3, x4⟩⟩⟩⟩; have z6 := x4.size; replace hS := hS.ext x4; replace hE := hE.ext x4; replace X := X.ext x4; clear x4; refine C1 Mv (C1 Px (C1 Px (C1 Px (C1 Pa (C1 Pa (C1 Pa (cN (C1 Mv ?_)))))))); refine cR (by kernel_rfl) rfl (Solid_c _ _ _ _ _ (by omega) (by assumption) (by intro b h; exact h.2)) (fun _ _ h => h.ret) rfl ?_; rintro _ w11 ⟨a7, ⟨k8, ⟨⟨⟩, ⟨h9, x10⟩⟩⟩⟩; have z12 := x10.size; replace h3 := h3.ext x10; replace hS := hS.ext x10; replace hE := hE.ext x10; replace X := X.ext x10; clear x10; refine C1 Mv (C1 Py (lw_makeMap rfl ?_)); rintro r13 w14 rfl h15 x16 h17; have z18 := x16.size; replace h9 := h9.ext x16; replace h3 := h3.ext x16; replace hS := hS.ext x16; replace hE := hE.ext x16; replace X := X.ext x16; clear x16; refine C1 Mv (C1 Mv (C1 (pur_build' [_, _, _, _, _, _] tabOk zOk rfl rfl rfl rfl) ?_)); (refine lw_box' [_, _, _, _, _, _] rfl rfl rfl ?_; intro b19 w20 n21); have h22 := n21.blk; have x23 := n21.ext; have p24 := n21.pos; have z25 := n21.size; clear n21; replace h15 := h15.ext x23; replace h9 := h9.ext x23; replace h3 := h3.ext x23; replace hS := hS.ext x23; replace hE := hE.ext x23; replace X := X.ext x23; clear x23; refine C1 Pa (cT (cw_seq (cS ?_))); refine cR (by kernel_rfl) rfl (Operators_c _) (fun _ _ h => h.ret) rfl ?_; rintro _ w32 ⟨b26, ⟨k27, ⟨⟨⟩, ⟨h28, ⟨h29, ⟨h30, x31⟩⟩⟩⟩⟩⟩; have z33 := x31.size; replace h22 := h22.ext x31
  replace h15 := h15.ext x31; replace h9 := h9.ext x31; replace h3 := h3.ext x31; replace hS := hS.ext x31; replace hE := hE.ext x31; replace X := X.ext x31; clear x31; refine C1 Pz (C1 Mv (cT (cw_block ?_))); rotate_left 1
 generalize hr : w11.heap.size = r at *
 refine cw_loop (ι := Nat) (fun j => [(6, .pointer (some ⟨b19, 0, none⟩)), (24, .slice (some ⟨b26, 0, none⟩) 16 k27), (25, .int .i64 16), (26, .int .i64 j)])
  (fun j w' => j ≤ 16 ∧ MapIs w' r (binMap.take j) ∧ Row w' ⟨b26, 0, none⟩ ((ops8 16).map (.int .u8 ·)) ∧ Blk w' b19 [.slice a7 (solidT (lexT s).1).length k8, .int .i64 0, .int .i64 s.length, .map (some r), .int .i64 (lexT s).2.1, .int .i64 (lexT s).2.2] ∧
   Toks (fun b => w5.heap.size ≤ b ∧ b < r) w' (solidT (lexT s).1) a7 ∧ Syms w' ∧ Errs w' ∧ Ext w w' ∧ w32.heap.size ≤ w'.heap.size) (fun j => 16 - j) 0 (by (refine sub_cons rfl ?_; refine sub_cons rfl ?_; refine sub_cons rfl ?_; refine sub_cons rfl ?_; exact sub_nil)) ⟨Nat.zero_le _, h15, h30, h22, h9, hS, hE, X, Nat.le_refl _⟩ ?_
 rintro j w1 ⟨hj, hM, hrow, hb, hT, hS, hE, X, hz⟩; clear h15 h30 h22 h9 h3
 by_cases hlt : j < 16
 · have hr1 : Row w1 ⟨b26, 0 + j * 1, none⟩ [.int .u8 (8 + (j : Int))] := by
    have h1 := hrow.sub j 1
    have e : (((ops8 16).map (.int .u8 ·)).drop j).take 1 = [Value.int .u8 (8 + (j : Int))] := by
     have : j = 0 ∨ j = 1 ∨ j = 2 ∨ j = 3 ∨ j = 4 ∨ j = 5 ∨ j = 6 ∨ j = 7 ∨ j = 8 ∨ j = 9 ∨ j = 10 ∨ j = 11 ∨ j = 12 ∨ j = 13 ∨ j = 14 ∨ j = 15 := by omega
     rcases this with rfl | rfl | rfl | rfl | rfl | rfl | rfl | rfl | rfl | rfl | rfl | rfl | rfl | rfl | rfl | rfl <;> rfl
    rw [e] at h1
    rw [Nat.mul_one]; exact h1
   have hset := setS_bin j hlt
   focus
    refine cS (C1 V3 (cT (cw_seq (Wyo (cw_skip (qw_then (cw_seq (cw_block (cS (C1 Pi (C1 (Pw0 hr1) ?_))))))))))); refine C1 Pa (cT ?_); (refine cw_tdraw (fun wz => Ext w1 wz) 7 (.pure 0 (.pure 1 (.pure 2 (.pure 3 (.pure 4 (.pure 6 (.fork 5 .tail .none))))))) mixed (by kernel_rfl) (panicOk_block (panicOk_then (panicOk_then (panicOk_block (panicOk_then panicOk_body))))) ?_; intro wa1 xa2 _); have qsa3 : (fun wz => Ext w1 wz) wa1 := xa2; simp only at qsa3; have d_hM := hM; have d_hrow := hrow; have d_hb := hb; have d_hT := hT; have d_hS := hS; have d_hE := hE; have d_hr1 := hr1; have za4 := xa2.size; replace hM := hM.ext xa2; replace hrow := hrow.ext xa2; replace hb := hb.ext xa2; replace hT := hT.ext xa2; replace hS := hS.ext xa2; replace hE := hE.ext xa2; replace X := X.ext xa2; replace hr1 := hr1.ext xa2; clear xa2; refine ⟨qsa3, ?_⟩; refine Tq rfl Mv (Tq rfl Pn (Tq rfl Pf (Tq rfl (Db d_hb) (Tq rfl Mv (Tq rfl Mv ?_))))); refine tw_does rfl (does_call (by kernel_rfl) rfl (arith_Symbol_s _ _ (by omega) (by omega) (by assumption)) (fun _ _ h => ⟨_, h.1⟩)) rfl ?_ (fun _ h => h) tw_none; rintro _ wa5 ⟨⟨⟩, rfl⟩; refine ⟨qsa3, ?_⟩; clear qsa3 d_hM d_hrow d_hb d_hT d_hS d_hE d_hr1; refine tw_tail rfl (lw_mapput tabOk rfl rfl rfl rfl rfl hM ?_); rintro wa6 ha7 fa8; have za9 := fa8.size; clear hM; replace hrow := Row.fr hrow fa8 (by simp only; omega); replace hb := hb.fr fa8 (by omega); replace hT := hT.fr fa8 (by omega); replace hS := hS.fr fa8 (by omega); replace hE := hE.fr fa8 (by omega)
    replace X := X.fr fa8 (by omega); replace hr1 := Row.fr hr1 fa8 (by simp only; omega); clear fa8; refine lw_nil (qw_block_norm (qw_then (cw_region (C1 V7 (C1 Mv (lw_nil ?_)))))); rotate_left 1
   refine qw_round (j + 1) (by (refine sub_cons rfl ?_; refine sub_cons rfl ?_; refine sub_cons rfl ?_; refine sub_cons rfl ?_; exact sub_nil)) ⟨by omega, by rw [← hset]; assumption, hrow, hb, hT, hS, hE, X, by omega⟩ (by omega)
 · have : j = 16 := by omega
   subst this
   focus
    refine cS (C1 V3 (cT (cw_seq (Wnd (cw_exit (qw_then_exit (qw_then_exit (qw_block_exit (qw_then (cS (C1 Mv ?_))))))))))); refine C1 Pa (cT (cw_ret (qw_ret1 rfl rfl ?_))); rotate_left 1
   have hsz := X.size; refine ⟨⟨b19, w1.heap.size, solidT (lexT s).1, s.length, a7, k8, r⟩, rfl, ⟨rfl, rfl, by simp only; omega⟩, ?_, X, Nat.le_refl _⟩; refine ⟨hb, hT.wide (fun b h => ⟨by simp only; omega, by simp only; omega⟩), hM, by simp only; omega, by simp only; omega, by simp only; omega, Nat.le_refl _, Nat.zero_le _, ?_, fun t ht => ?_, fun t ht => (solid_ok s t ht).num, hE, by simp only; omega⟩
   · exact Nat.le_trans (start_len s) hs
   · exact Nat.le_trans (solid_ok s t ht).len hs
end Bk
namespace Bk
open Go Go.RowKit Go.Proofs
attribute [local irreducible] Go.Calls
theorem fuel_ok {c : PC} {s : List UInt8} (h : c.ts = (startP s).1) (σ : PS) : 4 * mS c.ts σ + 20 ≤ fuelP s := by
 have h1 := start_len s
 have h2 : mS c.ts σ ≤ c.ts.length := by unfold mS; split <;> omega
 rw [h] at h2
 unfold fuelP
 rw [h]
 omega
def ParseR (w : World) (r : Nd × Int × Int) : Ending → World → Prop := fun e w' => ∃ a k, e = .returned (.tuple #[r.1.val a k, .int .i64 r.2.1, .int .i64 r.2.2]) ∧ r.1.sits (w.heap.size ≤ ·) w' a ∧ Ext w w'
theorem ParseR.ret {w : World} {r : Nd × Int × Int} {e : Ending} {w' : World} (h : ParseR w r e w') : ∃ v, e = .returned v := by
 obtain ⟨_, _, h, -⟩ := h
 exact ⟨_, h⟩
def ParsePR (w : World) (r : PG × Int × Int) : Ending → World → Prop := fun e w' => ∃ va vc pa pc ma mc, e = .returned (.tuple #[.agg (r.1.cells va vc pa pc ma mc).toArray, .int .i64 r.2.1, .int .i64 r.2.2]) ∧ r.1.sits (w.heap.size ≤ ·) w' va pa ma ∧ Ext w w'
theorem ParsePR.ret {w : World} {r : PG × Int × Int} {e : Ending} {w' : World} (h : ParsePR w r e w') : ∃ v, e = .returned v := by
 obtain ⟨_, _, _, _, _, _, h, -⟩ := h
 exact ⟨_, h⟩
theorem PG.sits.wide {S S' : Nat → Prop} {w : World} {g : PG} {va pa ma : Option Addr} (h : g.sits S w va pa ma) (hs : ∀ b, S b → S' b) : g.sits S' w va pa ma := ⟨h.vars.wide hs, h.procs.wide hs, h.main.wide hs⟩
section
variable {ts : List Tok} {n : Int}
theorem lines_le (k : Nat) : ∀ acc σ, σ.at_ ≤ ts.length → Le ts σ (linesP ts n k acc σ).2 := by
 induction k with
 | zero => intro acc σ h; rw [linesP]; exact Le.refl h
 | succ k ih =>
  intro acc σ h; rw [linesP]
  split
  · have l1 := (stmt_inv (ts := ts) (n := n) k).1 σ h
    have l2 := expect_le (n := n) (t := [59]) l1.wf (by decide)
    exact (l1.trans l2).trans (ih _ _ l2.wf)
  · exact Le.refl h
theorem lines_size (k : Nat) : ∀ acc σ, σ.at_ ≤ ts.length → rowSize (linesP ts n k acc σ).1 + 8 * σ.at_ ≤ 8 * (linesP ts n k acc σ).2.at_ + rowSize acc + (if σ.err = 0 then 1 else 0) := by
 induction k with
 | zero => intro acc σ h; rw [linesP]; simp only; split <;> omega
 | succ k ih =>
  intro acc σ h; rw [linesP]
  split
  · rename_i h0
    have s1 := (stmt_size (ts := ts) (n := n) k).1 σ h; have l1 := (stmt_inv (ts := ts) (n := n) k).1 σ h; have l2 := expect_le (n := n) (t := [59]) l1.wf (by decide); have s3 := ih (acc ++ [(stmtP ts n k σ).1]) _ l2.wf; rw [rowSize_append] at s3; simp only [rowSize] at s3; have e2 := l2.le
    have e3 : (expectP ts n (stmtP ts n k σ).2 [59]).err = 0 → (stmtP ts n k σ).2.at_ + 1 ≤ (expectP ts n (stmtP ts n k σ).2 [59]).at_ := fun e => expect_lt (n := n) e
    rw [if_pos h0.1]
    split at s3
    · rename_i e; have := e3 e; omega
    · omega
  · simp only; split <;> omega
end
theorem parseBlock_whole (s : List UInt8) (c : PC) (h1 : c.ts = (startP s).1) (h2 : c.n = s.length) : parseBlock s = wholeT (.mk 57 0 [] (linesP c.ts c.n (fuelP s) [] (startP s).2).1) (limitP (.mk 57 0 [] (linesP c.ts c.n (fuelP s) [] (startP s).2).1) 0 (linesP c.ts c.n (fuelP s) [] (startP s).2).2) := by
 unfold parseBlock wholeT
 rw [h1, h2]
set_option maxRecDepth 100000 in
set_option maxHeartbeats 4000000 in
theorem Block_p (s : List UInt8) (w : World) (hs : s.length ≤ 1000000) (hS : Syms w) (hE : Errs w) : Calls Tryz.prog 11 #[str s] w (ParseR w (parseBlock s)) := by
 have X := Ext.refl w; refine calls_in Tryz.func11 Tryz.ntmps11 rfl rfl ?_
 focus
  refine cS ?_; (refine lw_alloc' [_, _, _, _] zOk rfl rfl ?_; intro b1 w2 n3); have h5 := n3.blk; have x6 := n3.ext; have p7 := n3.pos; have z8 := n3.size; clear n3; replace hS := hS.ext x6; replace hE := hE.ext x6; replace X := X.ext x6; clear x6; refine C1 Pa (C1 Pa (cN (C1 Mv ?_))); refine cR (by kernel_rfl) rfl (start_c s _ hs (by assumption) (by assumption)) (fun _ _ h => h.ret) rfl ?_; rintro _ w16 ⟨c9, ⟨⟨⟩, ⟨⟨h10, ⟨h11, h12⟩⟩, ⟨h13, ⟨x14, h15⟩⟩⟩⟩⟩; have z17 := x14.size; replace h5 := h5.ext x14; replace hS := hS.ext x14; replace hE := hE.ext x14; replace X := X.ext x14; clear x14; refine C1 Pa (cN (C1 (pur_build' [_, _, _, _] tabOk zOk rfl rfl rfl rfl) ?_)); (refine lw_alloc' [_, _, _, _] zOk rfl rfl ?_; intro b18 w19 n20); (refine lw_init' [_, _, _, _] tabOk rfl rfl rfl rfl rfl rfl n20 rfl ?_; clear n20; clear w19; intro w21 n20); have h22 := n20.blk; have x23 := n20.ext; have p24 := n20.pos; have z25 := n20.size; clear n20; replace h13 := h13.ext x23; replace h5 := h5.ext x23; replace hS := hS.ext x23; replace hE := hE.ext x23; replace X := X.ext x23; clear x23; refine cT (cw_seq (cw_block ?_)); rotate_left 1
 have hf := fuel_ok h10 (startP s).2; have hat := h13.at_; have hlen := h13.len; have hpb := h13.pbB; have hB := h13.B; rw [parseBlock_whole s c9 h10 h11]; have hbs := lines_size (n := c9.n) (fuelP s) [] _ hat; have hbw := (lines_le (n := c9.n) (fuelP s) [] _ hat).wf
 have hsz : (Nd.mk 57 0 [] (linesP c9.ts c9.n (fuelP s) [] (startP s).2).1).size ≤ 1000000000 := by
  simp only [Nd.size, rowSize] at hbs ⊢
  split at hbs <;> omega
 have hmt : mS c9.ts (startP s).2 ≤ c9.ts.length := by unfold mS; split <;> omega
 clear hbs hbw; refine cw_loop (ι := Nat × List Nd × Option Addr × Nat × PS) (fun _ => [(2, .pointer (some ⟨b1, 0, none⟩)), (3, .int .i64 0), (4, .int .i64 0), (5, .pointer (some ⟨c9.pb, 0, none⟩)), (6, .pointer (some ⟨b18, 0, none⟩))])
  (fun x w' => PP c9 x.2.2.2.2 w' ∧ Blk w' b18 [.int .u8 57, .int .i64 0, str [], .slice x.2.2.1 x.2.1.length x.2.2.2.1] ∧ OwnL ndShape w' (b18 + 1) 26 (.slice x.2.2.1 x.2.1.length x.2.2.2.1) x.2.1 ∧
   Blk w' b1 [.int .u8 0, .int .i64 0, .string ⟨#[]⟩, .slice none 0 0] ∧ Ext w w' ∧ w21.heap.size ≤ w'.heap.size ∧
   linesP c9.ts c9.n (fuelP s) [] (startP s).2 = linesP c9.ts c9.n x.1 x.2.1 x.2.2.2.2 ∧ (x.2.2.2.2.err = 0 → 4 * mS c9.ts x.2.2.2.2 + 7 ≤ x.1) ∧ 1 ≤ x.1 ∧ (x.2.2.2.2.err = 0 → x.2.1.length + mS c9.ts x.2.2.2.2 ≤ 1000001)) (fun x => x.1) (fuelP s, [], none, 0, (startP s).2) (by (refine sub_cons rfl ?_; refine sub_cons rfl ?_; refine sub_cons rfl ?_; refine sub_cons rfl ?_; refine sub_cons rfl ?_; exact sub_nil))
  ⟨h13, h22, OwnL.nil, h5, X, Nat.le_refl _, rfl, fun _ => by simp only; omega, by simp only; omega, fun _ => by simp only [List.length_nil]; omega⟩ ?_
 rintro ⟨j, acc, a, cap, σ'⟩ w1 ⟨hP, hbn, hown, hbr, X, hz, he, hfj, hj1, hacc⟩; simp only at hP hbn hown he hfj hj1 hacc; clear h13 h22 h5 hS hE; rw [he] at hsz ⊢; obtain ⟨j, rfl⟩ : ∃ i, j = i + 1 := ⟨j - 1, by omega⟩
 have hob : ∀ g, (Value.slice a acc.length cap).ownBlock = some g → g < w1.heap.size := fun g h => hown.lt h
 by_cases hc : σ'.err = 0 ∧ σ'.at_ < c9.ts.length
 case neg =>
  rw [show linesP c9.ts c9.n (j + 1) acc σ' = (acc, σ') from by rw [linesP]; simp [hc]] at hsz ⊢; have hst : (Nd.mk 57 0 [] acc).sits (fun b => w.heap.size ≤ b ∧ b ≠ c9.pb ∧ b ≠ b1 ∧ b < w1.heap.size) w1 a := Nd.sits.wide (sits_lt2 _ _ (sits_mk (hown.sits (S := (b18 < ·)) (fun b h => h)))) (fun b h => ⟨by omega, by omega, by omega, h.2⟩)
  by_cases h0 : σ'.err = 0
  · have h1 : ¬ σ'.at_ < c9.ts.length := fun h => hc ⟨h0, h⟩
    focus
     refine cw_seq (cw_seq ?_); (refine cw_tdraw (fun wz => Ext w1 wz) 15 (.pure 0 (.pure 1 (.pure 2 (.pure 3 (.pure 4 (.pure 5 (.pure 6 (.pure 7 (.pure 8 (.pure 9 (.pure 10 (.pure 11 (.pure 12 (.pure 13 (.pure 14 .tail))))))))))))))) mixed (by kernel_rfl) (panicOk_then (panicOk_then (panicOk_then (panicOk_block (panicOk_then panicOk_body))))) ?_; intro wa1 xa2 _); have qsa3 : (fun wz => Ext w1 wz) wa1 := xa2; simp only at qsa3; have d_hP := hP; have d_hbn := hbn; have d_hown := hown; have d_hbr := hbr; have d_hst := hst; have za4 := xa2.size; replace hP := hP.ext xa2; replace hbn := hbn.ext xa2; replace hown := hown.ext xa2; replace hbr := hbr.ext xa2; replace X := X.ext xa2; replace hst := Nd.sits.ext hst xa2; clear xa2; refine ⟨qsa3, ?_⟩; refine Tq rfl Mv (Tq rfl Pn (Tq rfl Pf (Tq rfl (pur_load tabOk rfl rfl rfl (fun wz hz => Blk.cell (Blk.ext (PP.blk d_hP) hz) rfl)) (Tq rfl V1 (Tq rfl Mv ?_))))); refine tw_on rfl rfl rfl rfl (gd_tt (by assumption)) (pur_move rfl) rfl ?_; refine tw_on rfl rfl rfl rfl (gd_tt (by assumption)) (pur_nilCheck rfl) rfl ?_; refine tw_on rfl rfl rfl rfl (gd_tt (by assumption)) (pur_fieldAddr tabOk rfl rfl rfl) rfl ?_; refine tw_on rfl rfl rfl rfl (gd_tt (by assumption)) (pur_load tabOk rfl rfl rfl (fun wz hz => Blk.cell (Blk.ext (PP.blk d_hP) hz) rfl)) rfl ?_; refine tw_on rfl rfl rfl rfl (gd_tt (by assumption)) (pur_move rfl) rfl ?_; refine tw_on rfl rfl rfl rfl (gd_tt (by assumption)) (pur_nilCheck rfl) rfl ?_; refine tw_on rfl rfl rfl rfl (gd_tt (by assumption)) (pur_fieldAddr0 tabOk rfl rfl rfl) rfl ?_
     refine tw_on rfl rfl rfl rfl (gd_tt (by assumption)) (pur_load tabOk rfl rfl rfl (fun wz hz => Blk.cell (Blk.ext (PP.blk d_hP) hz) rfl)) rfl ?_; refine tw_on rfl rfl rfl rfl (gd_tt (by assumption)) (pur_len_slice tabOk rfl rfl) rfl ?_; clear qsa3 d_hP d_hbn d_hown d_hbr d_hst; refine tw_tail rfl (Gya (C1 V3 (C1 Qya (cT (Wno (cw_exit (qw_then_exit (qw_then_exit (qw_block_exit (qw_then (cS ?_))))))))))); refine C1 Mv (lw_loads_b' [_, _, _, _] tabOk rfl rfl rfl hbn rfl rfl rfl ?_); refine cR (by kernel_rfl) rfl (whole_c _ _ (.mk 57 0 [] acc) _ _ _ _ (by assumption) hsz (by assumption) (by intro b h; exact ⟨by omega, by omega⟩)) (fun _ _ h => h.ret) rfl ?_; rintro _ wa9 ⟨aa5, ⟨ka6, ⟨⟨⟩, ⟨ha7, fa8⟩⟩⟩⟩; have za10 := fa8.size; clear hP; replace hbn := hbn.fr fa8 (by omega); replace hown := hown.fr fa8 (by omega); replace hbr := hbr.fr fa8 (by omega); replace X := X.fr fa8 (by omega); replace hst := Nd.sits.fr hst fa8 (by omega); clear fa8; refine C1 Px (C1 Px (C1 Px ?_)); (refine lw_store' [_, _, _, _] [_, _, _, _] tabOk rfl rfl rfl rfl rfl rfl hbr rfl rfl ?_; intro wa11 na12); have ha15 := na12.blk; have fa13 := na12.fr; have za14 := na12.size; clear na12 hbr; replace ha7 := Nd.sits.fr ha7 fa13 (by omega); replace hbn := hbn.fr fa13 (by omega); replace hown := hown.fr fa13 (by omega); replace X := X.fr fa13 (by omega); replace hst := Nd.sits.fr hst fa13 (by omega); clear fa13; refine C1 Pa (C1 Pa (cT (cw_ret (qw_retc3 rfl tabOk rfl rfl rfl ha15 rfl rfl rfl ?_)))); rotate_left 1
    exact ⟨_, _, rfl, Nd.sits.wide (by assumption) (fun b h => by omega), X⟩
  · focus
     refine cw_seq (cw_seq ?_); (refine cw_tdraw (fun wz => Ext w1 wz) 15 (.pure 0 (.pure 1 (.pure 2 (.pure 3 (.pure 4 (.pure 5 (.pure 6 (.pure 7 (.pure 8 (.pure 9 (.pure 10 (.pure 11 (.pure 12 (.pure 13 (.pure 14 .tail))))))))))))))) mixed (by kernel_rfl) (panicOk_then (panicOk_then (panicOk_then (panicOk_block (panicOk_then panicOk_body))))) ?_; intro wb1 xb2 _); have qsb3 : (fun wz => Ext w1 wz) wb1 := xb2; simp only at qsb3; have d_hP := hP; have d_hbn := hbn; have d_hown := hown; have d_hbr := hbr; have d_hst := hst; have zb4 := xb2.size; replace hP := hP.ext xb2; replace hbn := hbn.ext xb2; replace hown := hown.ext xb2; replace hbr := hbr.ext xb2; replace X := X.ext xb2; replace hst := Nd.sits.ext hst xb2; clear xb2; refine ⟨qsb3, ?_⟩; refine Tq rfl Mv (Tq rfl Pn (Tq rfl Pf (Tq rfl (pur_load tabOk rfl rfl rfl (fun wz hz => Blk.cell (Blk.ext (PP.blk d_hP) hz) rfl)) (Tq rfl V1 (Tq rfl Mv ?_))))); refine tw_off rfl rfl rfl rfl (gd_tf (by assumption)) rfl ?_; refine tw_off rfl rfl rfl rfl (gd_tf (by assumption)) rfl ?_; refine tw_off rfl rfl rfl rfl (gd_tf (by assumption)) rfl ?_; refine tw_off rfl rfl rfl rfl (gd_tf (by assumption)) rfl ?_; refine tw_off rfl rfl rfl rfl (gd_tf (by assumption)) rfl ?_; refine tw_off rfl rfl rfl rfl (gd_tf (by assumption)) rfl ?_; refine tw_off rfl rfl rfl rfl (gd_tf (by assumption)) rfl ?_; refine tw_off rfl rfl rfl rfl (gd_tf (by assumption)) rfl ?_; refine tw_off rfl rfl rfl rfl (gd_tf (by assumption)) rfl ?_; clear qsb3 d_hP d_hbn d_hown d_hbr d_hst
     refine tw_tail rfl (Ona (C1 Qna (cT (cw_cond_f rfl (cw_exit (qw_then_exit (qw_then_exit (qw_block_exit (qw_then (cS (C1 Mv ?_))))))))))); refine lw_loads_b' [_, _, _, _] tabOk rfl rfl rfl hbn rfl rfl rfl ?_; refine cR (by kernel_rfl) rfl (whole_c _ _ (.mk 57 0 [] acc) _ _ _ _ (by assumption) hsz (by assumption) (by intro b h; exact ⟨by omega, by omega⟩)) (fun _ _ h => h.ret) rfl ?_; rintro _ wb9 ⟨ab5, ⟨kb6, ⟨⟨⟩, ⟨hb7, fb8⟩⟩⟩⟩; have zb10 := fb8.size; clear hP; replace hbn := hbn.fr fb8 (by omega); replace hown := hown.fr fb8 (by omega); replace hbr := hbr.fr fb8 (by omega); replace X := X.fr fb8 (by omega); replace hst := Nd.sits.fr hst fb8 (by omega); clear fb8; refine C1 Px (C1 Px (C1 Px ?_)); (refine lw_store' [_, _, _, _] [_, _, _, _] tabOk rfl rfl rfl rfl rfl rfl hbr rfl rfl ?_; intro wb11 nb12); have hb15 := nb12.blk; have fb13 := nb12.fr; have zb14 := nb12.size; clear nb12 hbr; replace hb7 := Nd.sits.fr hb7 fb13 (by omega); replace hbn := hbn.fr fb13 (by omega); replace hown := hown.fr fb13 (by omega); replace X := X.fr fb13 (by omega); replace hst := Nd.sits.fr hst fb13 (by omega); clear fb13; refine C1 Pa (C1 Pa (cT (cw_ret (qw_retc3 rfl tabOk rfl rfl rfl hb15 rfl rfl rfl ?_)))); rotate_left 1
    exact ⟨_, _, rfl, Nd.sits.wide (by assumption) (fun b h => by omega), X⟩
 rw [show linesP c9.ts c9.n (j + 1) acc σ' = linesP c9.ts c9.n j (acc ++ [(stmtP c9.ts c9.n j σ').1]) (expectP c9.ts c9.n (stmtP c9.ts c9.n j σ').2 [59]) from by rw [linesP]; simp [hc]] at hsz ⊢; obtain ⟨h0, h1⟩ := hc; have l1 := (stmt_inv (ts := c9.ts) (n := c9.n) j).1 σ' hP.at_; have l2 := expect_le (n := c9.n) (t := [59]) l1.wf (by decide); have hlt : Lt σ' (expectP c9.ts c9.n (stmtP c9.ts c9.n j σ').2 [59]) := Lt.of_le l1 expect_lt; have hdrop := mS_drop (l1.trans l2) hlt; have hacc0 := hacc h0; have hfj0 := hfj h0; clear l1 l2
 focus
  refine cw_seq (cw_seq ?_); (refine cw_tdraw (fun wz => Ext w1 wz) 15 (.pure 0 (.pure 1 (.pure 2 (.pure 3 (.pure 4 (.pure 5 (.pure 6 (.pure 7 (.pure 8 (.pure 9 (.pure 10 (.pure 11 (.pure 12 (.pure 13 (.pure 14 .tail))))))))))))))) mixed (by kernel_rfl) (panicOk_then (panicOk_then (panicOk_then (panicOk_block (panicOk_then panicOk_body))))) ?_; intro wc1 xc2 _); have qsc3 : (fun wz => Ext w1 wz) wc1 := xc2; simp only at qsc3; have d_hP := hP; have d_hbn := hbn; have d_hown := hown; have d_hbr := hbr; have zc4 := xc2.size; replace hP := hP.ext xc2; replace hbn := hbn.ext xc2; replace hown := hown.ext xc2; replace hbr := hbr.ext xc2; replace X := X.ext xc2; clear xc2; refine ⟨qsc3, ?_⟩; refine Tq rfl Mv (Tq rfl Pn (Tq rfl Pf (Tq rfl (pur_load tabOk rfl rfl rfl (fun wz hz => Blk.cell (Blk.ext (PP.blk d_hP) hz) rfl)) (Tq rfl V1 (Tq rfl Mv ?_))))); refine tw_on rfl rfl rfl rfl (gd_tt (by assumption)) (pur_move rfl) rfl ?_; refine tw_on rfl rfl rfl rfl (gd_tt (by assumption)) (pur_nilCheck rfl) rfl ?_; refine tw_on rfl rfl rfl rfl (gd_tt (by assumption)) (pur_fieldAddr tabOk rfl rfl rfl) rfl ?_; refine tw_on rfl rfl rfl rfl (gd_tt (by assumption)) (pur_load tabOk rfl rfl rfl (fun wz hz => Blk.cell (Blk.ext (PP.blk d_hP) hz) rfl)) rfl ?_; refine tw_on rfl rfl rfl rfl (gd_tt (by assumption)) (pur_move rfl) rfl ?_; refine tw_on rfl rfl rfl rfl (gd_tt (by assumption)) (pur_nilCheck rfl) rfl ?_; refine tw_on rfl rfl rfl rfl (gd_tt (by assumption)) (pur_fieldAddr0 tabOk rfl rfl rfl) rfl ?_
  refine tw_on rfl rfl rfl rfl (gd_tt (by assumption)) (pur_load tabOk rfl rfl rfl (fun wz hz => Blk.cell (Blk.ext (PP.blk d_hP) hz) rfl)) rfl ?_; refine tw_on rfl rfl rfl rfl (gd_tt (by assumption)) (pur_len_slice tabOk rfl rfl) rfl ?_; clear qsc3 d_hP d_hbn d_hown d_hbr; refine tw_tail rfl (Gya (C1 V3 (C1 Qya (cT (Wyo (cw_skip (qw_then (cw_block (cw_seq ?_))))))))); (refine cw_tdraw (fun wz => Fr (· = c9.pb) wc1 wz) 5 (.pure 0 (.pure 1 (.pure 2 (.fork 3 (.fork 4 .tail .none) .none)))) mixed (by kernel_rfl) (panicOk_then (panicOk_block (panicOk_then (panicOk_block (panicOk_then panicOk_body))))) ?_; intro wc5 xc6 _); have qsc7 : (fun wz => Fr (· = c9.pb) wc1 wz) wc5 := Fr.of_ext xc6; simp only at qsc7; have d_hP := hP; have d_hbn := hbn; have d_hown := hown; have d_hbr := hbr; have zc8 := xc6.size; replace hP := hP.ext xc6; replace hbn := hbn.ext xc6; replace hown := hown.ext xc6; replace hbr := hbr.ext xc6; replace X := X.ext xc6; clear xc6; refine ⟨qsc7, ?_⟩; refine Tq rfl Pf ?_; refine Tq rfl (pur_load tabOk rfl rfl rfl (fun wz hz => Blk.cell (Blk.fr d_hbn hz (by omega)) rfl)) ?_; refine Tq rfl Mv ?_; refine tw_does rfl (does_call (by kernel_rfl) rfl ((stmts_c c9 j).stmt _ _ (by assumption) (by omega)) (fun _ _ h => h.ret)) rfl ?_ (fun _ h => h) tw_none; rintro _ wc14 ⟨ac9, ⟨kc10, ⟨⟨⟩, ⟨hc11, ⟨hc12, fc13⟩⟩⟩⟩⟩; have zc15 := fc13.size; replace qsc7 := qsc7.fr fc13 (by omega); clear hP; replace hbn := hbn.fr fc13 (by omega); replace hown := hown.fr fc13 (by omega); replace hbr := hbr.fr fc13 (by omega)
  replace X := X.fr fc13 (by omega); clear fc13; refine ⟨qsc7, ?_⟩; (refine tw_does rfl (does_slice' [_, _, _, _] tabOk zOk rfl rfl rfl rfl rfl rfl rfl rfl rfl) rfl ?_ (fun _ h => h) tw_none; rintro _ wc17 ⟨bc16, rfl, nc18, tc19⟩); clear tc19; have hc20 := nc18.blk; have xc21 := nc18.ext; have pc22 := nc18.pos; have zc23 := nc18.size; clear nc18; replace hc11 := Nd.sits.ext hc11 xc21; replace hc12 := hc12.ext xc21; replace qsc7 := qsc7.ext xc21; replace hbn := hbn.ext xc21; replace hown := hown.ext xc21; replace hbr := hbr.ext xc21; replace X := X.ext xc21; clear xc21; refine ⟨qsc7, ?_⟩; clear d_hP d_hbn d_hown d_hbr qsc7; refine tw_tail rfl ?_; refine lw_appendL (sh := ndShape) tabOk zOk rfl rfl rfl rfl (by kernel_rfl) rfl rfl rfl hown (Blk.row (by assumption)) ⟨_, _, rfl, Nd.sits.wide (by assumption) (fun b h => ⟨by omega, fun e => by have := hob _ e; omega⟩)⟩ (by omega) (by omega) rfl ?_; rintro gc24 cap'c25 wc26 hc27 fc28; have zc29 := fc28.size; clear hc20 hc11; replace hc12 := hc12.fr fc28 (by omega); replace hbn := hbn.fr fc28 (by omega); clear hown; replace hbr := hbr.fr fc28 (by omega); replace X := X.fr fc28 (by omega); clear fc28; refine C1 Pf ?_; (refine lw_store' [_] [_, _, _, _] tabOk rfl rfl rfl rfl rfl rfl hbn rfl rfl ?_; intro wc30 nc31); have hc34 := nc31.blk; have fc32 := nc31.fr; have zc33 := nc31.size; clear nc31 hbn; replace hc27 := hc27.fr fc32 (by omega); replace hc12 := hc12.fr fc32 (by omega); replace hbr := hbr.fr fc32 (by omega); replace X := X.fr fc32 (by omega)
  clear fc32; refine cT (cw_region (C1 Mv ?_)); refine cC rfl (expect_c _ _ _ _ (by assumption) (by decide)) ?_; rintro _ wc37 ⟨⟨⟩, ⟨hc35, fc36⟩⟩; have zc38 := fc36.size; replace hc34 := hc34.fr fc36 (by omega); replace hc27 := hc27.fr fc36 (by omega); clear hc12; replace hbr := hbr.fr fc36 (by omega); replace X := X.fr fc36 (by omega); clear fc36; refine lw_nil (qw_block_norm ?_); rotate_left 1
 refine qw_round (j, acc ++ [(stmtP c9.ts c9.n j σ').1], some ⟨_, 0, none⟩, _, expectP c9.ts c9.n (stmtP c9.ts c9.n j σ').2 [59]) (by (refine sub_cons rfl ?_; refine sub_cons rfl ?_; refine sub_cons rfl ?_; refine sub_cons rfl ?_; refine sub_cons rfl ?_; exact sub_nil)) ⟨by assumption, by assumption, by assumption, by assumption, X, by omega, rfl, fun e => by have := hdrop e; simp only; omega, by simp only; omega, fun e => ?_⟩ (by simp); have := hdrop e; simp only [List.length_append, List.length_cons, List.length_nil]
 omega
end Bk
namespace Bk
open Go Go.RowKit Go.Proofs
attribute [local irreducible] Go.Calls
theorem qw_retc2 {P : Program} {n : Nat} {l : Sl} {tab : Tab} {sz : Nat} {w : World} {fn : Func} {R : Ending → World → Prop} {ct cty b s : Nat} {sk : Sk} {vs : List Value} {v3 : Value} (h : fn.results = #[.cell ct cty, .tmp s]) (T : TabOk P tab) (ht : lookT tab cty = some (sk, sz)) (hs : sk.agg = true) (hv : look l ct = some (.pointer (some ⟨b, 0, none⟩))) (hb : Blk w b vs) (hl : vs.length = sz)
 (hz : look l s = some v3) (hR : R (.returned (.tuple #[.agg vs.toArray, v3])) w) : QW n (bodyPost P fn R) .ret l w := by
 unfold QW
 intro a ha; refine ⟨ha.defers, .tuple #[.agg vs.toArray, v3], ?_, hR⟩
 have e : (loadVar cty ⟨b, 0, none⟩).run P w = .ok (.agg vs.toArray) w := by
  simp only [Sem.run_bind, Sem.run_pure, Result.andThen, loadVar, run_isAgg (T _ _ _ ht), hs, if_true, run_sizeOf (T _ _ _ ht)]; rw [← hl, run_loadCells' hb.row]
 have hv' := ha.has ct _ hv; have hz' := ha.has s _ hz; simp only [Array.getD_eq_getD_getElem?] at hv' hz'
 simp [results, h, hv', hz', e, asAddr]
theorem isStmt_v {t : Nd} (hwf : t.wf) {b : Bool} (h : t.isStmt = b) (S : Nat → Prop) (a : Option Addr) (c : Nat) (w : World) (hs : t.sits S w a) : Calls Tryz.prog 33 #[t.val a c] w fun e w' => e = .returned (.bool b) ∧ Ext w w' := by
 have := IsStmt_t S t hwf a c w hs
 rw [h] at this; exact this
theorem isBlockI_v {t : Nd} (hwf : t.wf) {b : Bool} (h : t.isBlock = b) (S : Nat → Prop) (a : Option Addr) (c : Nat) (w : World) (hs : t.sits S w a) : Calls Tryz.prog 34 #[t.val a c] w fun e w' => e = .returned (.bool b) ∧ Ext w w' := by
 have := IsBlock_t S t hwf a c w hs
 rw [h] at this; exact this
def StmtR (u : Nd) (w : World) : Ending → World → Prop := fun e w' => ∃ a c, e = .returned (.tuple #[u.val a c, .int .i64 0]) ∧ u.sits (fun b => w.heap.size ≤ b ∧ b < w'.heap.size) w' a ∧ Ext w w'
theorem StmtR.ret {u : Nd} {w : World} {e : Ending} {w' : World} (h : StmtR u w e w') : ∃ v, e = .returned v := by
 obtain ⟨_, _, h, -⟩ := h
 exact ⟨_, h⟩
theorem invert_t (q : Bool) (t : Nd) (hz : t.size ≤ 1000000) (hv : t.isStmt = true ∨ t.isBlock = true) (S : Nat → Prop) (a : Option Addr) (c : Nat) (w : World) (hs : t.sits S w a) : Calls Tryz.prog 35 #[t.val a c, .bool q] w (CopyR (t.inv q) w) := Invert_c q (t.size + 1) t S a c w (by omega) hz hv hs
set_option maxRecDepth 100000 in
set_option maxHeartbeats 4000000 in
theorem iStmt_v {t : Nd} (hwf : t.wf) (hz : t.size ≤ 1000000) (hv : t.isStmt = true ∨ t.isBlock = true) (S : Nat → Prop) (a : Option Addr) (c : Nat) (w : World) (hs : t.sits S w a) : Calls Tryz.prog 12 #[t.val a c] w (StmtR (t.inv false) w) := by
 have X := Ext.refl w; replace hs := sits_ltA _ _ hs; have HI := Lib.hid (invert_t false t hz hv)
 by_cases h : t.isStmt = true
 · have HS := Lib.hid (isStmt_v hwf h)
   clear hwf hv h; refine calls_in Tryz.func12 Tryz.ntmps12 rfl rfl ?_
   focus
    refine cS ?_; (refine lw_box' [_, _, _, _] rfl rfl rfl ?_; intro b1 w2 n3); have h4 := n3.blk; have x5 := n3.ext; have p6 := n3.pos; have z7 := n3.size; clear n3; replace X := X.ext x5; replace hs := Nd.sits.ext hs x5; clear x5; (refine lw_alloc' [_, _, _, _] zOk rfl rfl ?_; intro b8 w9 n10); have h12 := n10.blk; have x13 := n10.ext; have p14 := n10.pos; have z15 := n10.size; clear n10; replace h4 := h4.ext x13; replace X := X.ext x13; replace hs := Nd.sits.ext hs x13; clear x13; refine C1 Pa (cT (cw_seq (cS (lw_loads_b' [_, _, _, _] tabOk rfl rfl rfl h4 rfl rfl rfl ?_)))); refine cC rfl (HS.out _ _ _ _ (by assumption)) ?_; rintro _ w17 ⟨⟨⟩, x16⟩; have z18 := x16.size; replace h12 := h12.ext x16; replace h4 := h4.ext x16; replace X := X.ext x16; replace hs := Nd.sits.ext hs x16; clear x16; refine C1 Pt (C1 Mv (lw_off rfl rfl rfl (rfl) rfl (lw_off rfl rfl rfl (rfl) rfl (lw_off rfl rfl rfl (rfl) rfl (C1 (pur_pick_f rfl rfl rfl) (cT (cw_cond_f rfl (cw_skip (qw_then (cS (lw_loads_b' [_, _, _, _] tabOk rfl rfl rfl h4 rfl rfl rfl ?_))))))))))); refine cR (by kernel_rfl) rfl (HI.out _ _ _ _ (by assumption)) (fun _ _ h => h.ret) rfl ?_; rintro _ w23 ⟨a19, ⟨c20, ⟨⟨⟩, ⟨h21, x22⟩⟩⟩⟩; have z24 := x22.size; replace h12 := h12.ext x22; replace h4 := h4.ext x22; replace X := X.ext x22; replace hs := Nd.sits.ext hs x22; clear x22; (refine lw_store' [_, _, _, _] [_, _, _, _] tabOk rfl rfl rfl rfl rfl rfl h12 rfl rfl ?_; intro w25 n26); have h29 := n26.blk; have f27 := n26.fr; have z28 := n26.size
    clear n26 h12; replace h21 := Nd.sits.fr h21 f27 (by omega); replace h4 := h4.fr f27 (by omega); replace X := X.fr f27 (by omega); replace hs := Nd.sits.fr hs f27 (by omega); clear f27; refine C1 Pa (cT (cw_ret ?_)); rotate_left 1
   refine qw_retc2 rfl tabOk rfl rfl rfl h29 rfl rfl ?_
   exact ⟨_, _, rfl, Nd.sits.wide (by assumption) (fun b h => by omega), X⟩
 · have HS := Lib.hid (isStmt_v hwf (show t.isStmt = false by simpa using h))
   have HB := Lib.hid (isBlockI_v hwf (hv.resolve_left h)); clear hwf hv h; refine calls_in Tryz.func12 Tryz.ntmps12 rfl rfl ?_
   focus
    refine cS ?_; (refine lw_box' [_, _, _, _] rfl rfl rfl ?_; intro ba1 wa2 na3); have ha4 := na3.blk; have xa5 := na3.ext; have pa6 := na3.pos; have za7 := na3.size; clear na3; replace X := X.ext xa5; replace hs := Nd.sits.ext hs xa5; clear xa5; (refine lw_alloc' [_, _, _, _] zOk rfl rfl ?_; intro ba8 wa9 na10); have ha12 := na10.blk; have xa13 := na10.ext; have pa14 := na10.pos; have za15 := na10.size; clear na10; replace ha4 := ha4.ext xa13; replace X := X.ext xa13; replace hs := Nd.sits.ext hs xa13; clear xa13; refine C1 Pa (cT (cw_seq (cS (lw_loads_b' [_, _, _, _] tabOk rfl rfl rfl ha4 rfl rfl rfl ?_)))); refine cC rfl (HS.out _ _ _ _ (by assumption)) ?_; rintro _ wa17 ⟨⟨⟩, xa16⟩; have za18 := xa16.size; replace ha12 := ha12.ext xa16; replace ha4 := ha4.ext xa16; replace X := X.ext xa16; replace hs := Nd.sits.ext hs xa16; clear xa16; refine C1 Pt (C1 Mv (lw_on rfl rfl rfl (rfl) (lw_loads_b' [_, _, _, _] tabOk rfl rfl rfl ha4 rfl rfl rfl (lw_on rfl rfl rfl (rfl) ?_)))); refine cC rfl (HB.out _ _ _ _ (by assumption)) ?_; rintro _ wa20 ⟨⟨⟩, xa19⟩; have za21 := xa19.size; replace ha12 := ha12.ext xa19; replace ha4 := ha4.ext xa19; replace X := X.ext xa19; replace hs := Nd.sits.ext hs xa19; clear xa19; refine lw_on rfl rfl rfl (rfl) (C1 Pt (C1 (pur_pick_t rfl rfl rfl) (cT (cw_cond_f rfl (cw_skip (qw_then (cS (lw_loads_b' [_, _, _, _] tabOk rfl rfl rfl ha4 rfl rfl rfl ?_)))))))); refine cR (by kernel_rfl) rfl (HI.out _ _ _ _ (by assumption)) (fun _ _ h => h.ret) rfl ?_; rintro _ wa26 ⟨aa22, ⟨ca23, ⟨⟨⟩, ⟨ha24, xa25⟩⟩⟩⟩
    have za27 := xa25.size; replace ha12 := ha12.ext xa25; replace ha4 := ha4.ext xa25; replace X := X.ext xa25; replace hs := Nd.sits.ext hs xa25; clear xa25; (refine lw_store' [_, _, _, _] [_, _, _, _] tabOk rfl rfl rfl rfl rfl rfl ha12 rfl rfl ?_; intro wa28 na29); have ha32 := na29.blk; have fa30 := na29.fr; have za31 := na29.size; clear na29 ha12; replace ha24 := Nd.sits.fr ha24 fa30 (by omega); replace ha4 := ha4.fr fa30 (by omega); replace X := X.fr fa30 (by omega); replace hs := Nd.sits.fr hs fa30 (by omega); clear fa30; refine C1 Pa (cT (cw_ret ?_)); rotate_left 1
   refine qw_retc2 rfl tabOk rfl rfl rfl (by assumption) rfl rfl ?_
   exact ⟨_, _, rfl, Nd.sits.wide (by assumption) (fun b h => by omega), X⟩
theorem equalI_v (t : Nd) (hz : t.size ≤ 1000000) (u : Nd) (S S' : Nat → Prop) (a a' : Option Addr) (c c' : Nat) (w : World) (hs : t.sits S w a) (hs' : u.sits S' w a') : Calls Tryz.prog 13 #[t.val a c, u.val a' c'] w fun e w' => e = .returned (.bool (t.eqb u)) ∧ Ext w w' :=
 Equal_b (t.size + 1) t u S S' a a' c c' w (by omega) (by omega) hs hs'
set_option maxRecDepth 100000 in
set_option maxHeartbeats 4000000 in
theorem palin_v {t : Nd} (hwf : t.wf) (hz : t.size ≤ 1000000) (hb : t.isBlock = true) (S : Nat → Prop) (a : Option Addr) (c : Nat) (w : World) (hs : t.sits S w a) : Calls Tryz.prog 14 #[t.val a c] w fun e w' => e = .returned (.bool (t.eqb (t.inv false))) ∧ Ext w w' := by
 have X := Ext.refl w; replace hs := sits_ltA _ _ hs; have HI := Lib.hid (invert_t false t hz (Or.inr hb)); have HB := Lib.hid (isBlockI_v hwf hb); have HE := Lib.hid (equalI_v t hz); clear hwf hb; refine calls_in Tryz.func14 Tryz.ntmps14 rfl rfl ?_
 focus
  refine cS ?_; (refine lw_box' [_, _, _, _] rfl rfl rfl ?_; intro b1 w2 n3); have h4 := n3.blk; have x5 := n3.ext; have p6 := n3.pos; have z7 := n3.size; clear n3; replace X := X.ext x5; replace hs := Nd.sits.ext hs x5; clear x5; refine C1 Pa (cT (cw_seq ?_)); (refine cw_tdraw (fun wz => Ext w2 wz) 6 (.pure 0 (.fork 1 (.pure 2 (.pure 3 (.pure 4 (.fork 5 .tail .none)))) .none)) mixed (by kernel_rfl) (panicOk_then panicOk_body) ?_; intro w8 x9 _); have qs10 : (fun wz => Ext w2 wz) w8 := x9; simp only at qs10; have d_h4 := h4; have d_hs := hs; have z11 := x9.size; replace h4 := h4.ext x9; replace X := X.ext x9; replace hs := Nd.sits.ext hs x9; clear x9; refine ⟨qs10, ?_⟩; refine Tq rfl (pur_loads_blk' [_, _, _, _] tabOk rfl rfl rfl (fun wz hz => (Blk.ext d_h4 hz)) rfl rfl) ?_; refine tw_does rfl (does_call (by kernel_rfl) rfl (HB.out _ _ _ _ (by assumption)) (fun _ _ h => ⟨_, h.1⟩)) rfl ?_ (fun _ h => h) tw_none; rintro _ w14 ⟨⟨⟩, x13⟩; have z15 := x13.size; replace qs10 := qs10.ext x13; replace h4 := h4.ext x13; replace X := X.ext x13; replace hs := Nd.sits.ext hs x13; clear x13; refine ⟨qs10, ?_⟩; refine Tq rfl Mv (tw_on rfl rfl rfl rfl (rfl) (pur_loads_blk' [_, _, _, _] tabOk rfl rfl rfl (fun wz hz => (Blk.ext d_h4 hz)) rfl rfl) rfl (tw_on rfl rfl rfl rfl (rfl) (pur_loads_blk' [_, _, _, _] tabOk rfl rfl rfl (fun wz hz => (Blk.ext d_h4 hz)) rfl rfl) rfl ?_)); refine tw_does_on rfl rfl rfl rfl (rfl) (does_call (by kernel_rfl) rfl (HI.out _ _ _ _ (by assumption)) (fun _ _ h => h.ret)) rfl ?_ (fun _ h => h) tw_none
  rintro _ w21 ⟨a17, ⟨c18, ⟨⟨⟩, ⟨h19, x20⟩⟩⟩⟩; have z22 := x20.size; replace qs10 := qs10.ext x20; replace h4 := h4.ext x20; replace X := X.ext x20; replace hs := Nd.sits.ext hs x20; clear x20; refine ⟨qs10, ?_⟩; clear d_h4 d_hs qs10; refine tw_tail rfl (lw_on rfl rfl rfl (rfl) ?_); refine cC rfl (HE.out _ _ _ _ _ _ _ _ (by assumption) (by assumption)) ?_; rintro _ w24 ⟨⟨⟩, x23⟩; have z25 := x23.size; replace h19 := Nd.sits.ext h19 x23; replace h4 := h4.ext x23; replace X := X.ext x23; replace hs := Nd.sits.ext hs x23; clear x23; refine C1 (pur_pick_t rfl rfl rfl) (C1 Pa (cT (cw_ret (qw_ret1 rfl rfl ?_)))); rotate_left 1
 exact ⟨rfl, X⟩
end Bk
namespace Bk
open Go Go.RowKit Go.Proofs
attribute [local irreducible] Go.Calls
def zeroVD : VD := ⟨[], 0, 0⟩
theorem findV_step {l : List VD} {j : Nat} (h : j < l.length) (s : List UInt8) : findV (l.take (j + 1)) s = if l[j].name = s then some l[j] else findV (l.take j) s := by
 unfold findV
 rw [List.take_succ_eq_append_getElem h, List.reverse_append, List.reverse_singleton, List.singleton_append, List.find?_cons]
 by_cases hn : l[j].name = s
 · simp [hn]
 · simp [hn]
theorem VDs.get {S : Nat → Prop} {w : World} {l : List VD} {a : Option Addr} (h : VDs S w l a) (hl : l ≠ []) : ∃ b o, a = some ⟨b, o, none⟩ ∧ S b ∧ ∀ i v, l[i]? = some v → Row w ⟨b, o + i * 3, none⟩ v.cells := by
 rcases h with h | ⟨b, o, h1, h2, h3⟩
 · exact absurd h hl
 · exact ⟨b, o, h1, h2, fun i v hi => h3 i v hi⟩
theorem VDs.ltV {S : Nat → Prop} {w : World} {l : List VD} {a : Option Addr} (h : VDs S w l a) : VDs (· < w.heap.size) w l a := h.lt2.wide fun _ h => h.2
set_option maxRecDepth 100000 in
set_option maxHeartbeats 4000000 in
theorem Find_c (l : List VD) (hl : l.length ≤ 1000000) (s : List UInt8) (S : Nat → Prop) (a : Option Addr) (c : Nat) (w : World) (hs : VDs S w l a) :
 Calls Tryz.prog 44 #[.slice a l.length c, str s] w fun e w' => e = .returned (.tuple #[((findV l s).getD zeroVD).val, .bool (findV l s).isSome]) ∧ Ext w w' := by
 have X := Ext.refl w; replace hs := hs.ltV; refine calls_in Tryz.func44 Tryz.ntmps44 rfl rfl ?_
 focus
  refine cS ?_; (refine lw_alloc' [_, _, _] zOk rfl rfl ?_; intro b1 w2 n3); have h5 := n3.blk; have x6 := n3.ext; have p7 := n3.pos; have z8 := n3.size; clear n3; replace X := X.ext x6; replace hs := hs.ext x6; clear x6; refine C1 Pa (cT (cw_seq (cS (C1 Mv (C1 Pz ?_))))); refine C1 (pur_sub rfl rfl (IntWalk.i64_in _ (by omega))) ?_; refine C1 Pa (cT ?_); rotate_left 1
 refine cw_block ?_; refine cw_loop (ι := Nat) (fun j => [(0, .slice a l.length c), (1, str s), (4, .pointer (some ⟨b1, 0, none⟩)), (6, .int .i64 ((j : Int) - 1))])
  (fun j w' => j ≤ l.length ∧ VDs (· < w.heap.size) w' l a ∧ Blk w' b1 [.string ⟨#[]⟩, .int .u8 0, .int .i64 0] ∧ Ext w w' ∧ findV l s = findV (l.take j) s)
  (fun j => j) l.length (by (refine sub_cons rfl ?_; refine sub_cons rfl ?_; refine sub_cons rfl ?_; refine sub_cons rfl ?_; exact sub_nil)) ⟨Nat.le_refl _, hs, h5, X, by rw [List.take_length]⟩ ?_
 clear hs h5 X; rintro j w1 ⟨hj, hs, hb, X, hf⟩
 cases j with
 | zero =>
  have e0 : findV l s = none := by rw [hf]; rfl
  rw [e0]
  focus
   refine cw_seq (cS (C1 Mv (C1 V6 (cT (Wnd (cw_exit (qw_then_exit (qw_then_exit (qw_block_exit (qw_then (cS ?_))))))))))); refine C1 (pur_build' [_, _, _] tabOk zOk rfl rfl rfl rfl) ?_; (refine lw_store' [_, _, _] [_, _, _] tabOk rfl rfl rfl rfl rfl rfl hb rfl rfl ?_; intro wa1 na2); have ha5 := na2.blk; have fa3 := na2.fr; have za4 := na2.size; clear na2 hb; replace hs := hs.fr fa3 (by omega); replace X := X.fr fa3 (by omega); clear fa3; refine C1 Pa (cT (cw_ret ?_)); rotate_left 1
  refine qw_retc2 rfl tabOk rfl rfl rfl (by assumption) rfl rfl ?_
  exact ⟨rfl, X⟩
 | succ j =>
  have hlt : j < l.length := by omega
  obtain ⟨kb, ko, rfl, kS, hget⟩ := hs.get (by intro e; subst e; simp at hlt); have r0 := hget j l[j] (List.getElem?_eq_getElem hlt); have hn := findV_step hlt s; rw [hn] at hf; clear hget hn
  generalize l[j] = v at *
  have hj1 : (((j + 1 : Nat) : Int) - 1) = (j : Int) := by omega
  obtain ⟨vn, vk, vl⟩ := v; replace r0 : Row w1 ⟨kb, ko + j * 3, none⟩ [str vn, .int .u8 vk, .int .i64 vl] := r0; dsimp only at hf; rw [hj1]
  focus
   refine cw_seq (cS (C1 Mv (C1 V6 (cT (Wyo (cw_skip (qw_then (cw_seq (cw_block (cS (C1 Mv ?_))))))))))); refine C1 Mv (C1 Pi (C1 Pg (C1 (Pw0 r0) (C1 Mv (C1 V8 (cT ?_)))))); refine cw_dec rfl (fun cb1 => ?_) (fun cb1 => ?_); refine cS (C1 Mv (C1 Mv (C1 Pi (C1 (Pws r0) ?_)))); (refine lw_store' [_, _, _] [_, _, _] tabOk rfl rfl rfl rfl rfl rfl hb rfl rfl ?_; intro wb2 nb3); have hb6 := nb3.blk; have fb4 := nb3.fr; have zb5 := nb3.size; clear nb3 hb; replace X := X.fr fb4 (by omega); replace hs := hs.fr fb4 (by omega); replace r0 := Row.fr r0 fb4 (by simp only; omega); clear fb4; refine C1 Pa (cT (cw_ret (qw_block_ret (qw_then_ret (qw_then_ret (qw_block_ret (qw_then_ret ?_))))))); rotate_left 1; refine cw_skip (qw_block_norm (qw_then (cw_region (C1 Mv ?_)))); refine C1 (pur_sub rfl rfl (IntWalk.i64_in _ (by omega))) ?_; refine C1 Pa (lw_nil ?_); rotate_left 1
  · refine qw_retc2 rfl tabOk rfl rfl rfl (by assumption) rfl rfl ?_
    rw [if_pos (by assumption)] at hf; rw [hf]
    exact ⟨rfl, X⟩
  · rw [if_neg (by assumption)] at hf
    exact qw_round j (by (refine sub_cons rfl ?_; refine sub_cons rfl ?_; refine sub_cons rfl ?_; refine sub_cons rfl ?_; exact sub_nil)) ⟨by omega, hs, hb, X, hf⟩ (by omega)
end Bk
namespace Bk
open Go Go.RowKit
section
variable {P : Program} {n : Nat} {l : Sl} {S : World → Prop} {tab : Tab} {zt : ZTab} {ty : TypeId} {w : World}
theorem pur_clip {x y z : Operand} {t e sz1 sz len cap : Nat} {sE : Sk} {a : Option Addr} {k k' : IntKind} (T : TabOk P tab) (ht : lookT tab t = some (.slice e, sz1)) (hE : lookT tab e = some (sE, sz)) (hx : ev l x = some (.slice a len cap)) (hy : ev l y = some (.int k (len : Int))) (hz : ev l z = some (.int k' (len : Int))) (hm : len ≤ cap) :
 Pur P n l S (.slice t x none (some y) (some z)) ty (.slice a len len) := by
 unfold Pur
 intro act w dst pos after g ha _; have hu : P.underlying t = some (.slice e) := (T _ _ _ ht).under
 have hel : P.elem t = e := by simp [Program.elem, hu]
 have hu2 : P.underlying t = some (.slice (P.elem t)) := by rw [hel]; exact hu
 obtain ⟨i, hi, hs⟩ := (T _ _ _ hE).info
 have hsz : (Go.sizeOf e).run P w = .ok sz w := by simp [Go.sizeOf, typeInfo, program, Sem.run, bind, Sem.bind, pure, hi, hs]
 have h1 : (Instr.sliceAt t (.slice a len cap) none (some (.int k (len : Int))) (some (.int k' (len : Int)))).run P w = .ok (.slice a len len) w := by
  rw [run_sliceAt_slice w t _ _ _ _ hu2, run_slice_hm w t a len cap hu2 k k' len len (by omega) (by omega) (by omega)]; rw [hel, hsz]; simp only [Result.andThen, sliced, Int.toNat_natCast, Nat.sub_zero, Nat.zero_mul]
  by_cases h0 : len = 0
  · rw [if_pos h0]
  · rw [if_neg h0]; cases a <;> simp [Addr.add]
 simp [execOp, ha.ev hx, ha.ev hy, ha.ev hz, Sem.run_bind, h1, Result.andThen]
theorem does_append_full {x y : Operand} {t e sz1 sz m cap : Nat} {sE : Sk} {zs : List Value} {a : Option Addr} {p : Addr} {cs us : List Value} {R : Nat → Prop} (T : TabOk P tab) (Z : ZTabOk P zt) (ht : lookT tab t = some (.slice e, sz1)) (hE : lookT tab e = some (sE, sz)) (hz : lookZ zt e = some zs) (hzl : zs.length = sz)
 (hby : bytesOk P e = true) (hsz : Nat.blt 0 sz = true) (hx : ev l x = some (.slice a m m)) (hy : ev l y = some (.slice (some p) 1 cap)) (hs : Rows R w cs a) (hcl : cs.length = m * sz) (hr : Row w p us) (hul : us.length = 1 * sz) (hu : us.all Value.one = true) (hm : m ≤ 1000000000) :
 Does P n l (.call ⟨.builtin .append, #[x, y], #[t, t]⟩) ty w (OnSome fun o w' => ∃ g cap', o = .slice (some ⟨g, 0, none⟩) (m + 1) cap' ∧ m + 1 ≤ cap' ∧ Row w' ⟨g, 0, none⟩ (cs ++ us) ∧ w.heap.size ≤ g ∧ g < w'.heap.size ∧ Ext w w') := by
 obtain ⟨i, v0, z1, z2, z3⟩ := lookZ_ok Z hz; obtain ⟨i', hi', hs'⟩ := (T _ _ _ hE).info; rw [z1] at hi'; obtain rfl := Option.some.inj hi'
 have hbb : i.bytes ≤ 1000 := by
  unfold bytesOk at hby
  rw [z1] at hby
  exact Nat.le_of_ble_eq_true hby
 have hzs : v0.cells.size = sz := by rw [z3]; simpa using hzl
 have hsz' : 0 < sz := Nat.le_of_ble_eq_true hsz
 have hbytes : (m + 1) * i.bytes ≤ 140737488355328 := by have := Nat.mul_le_mul (show m + 1 ≤ 1000000001 by omega) hbb; omega
 have hnews : ∀ j u, us[j]? = some u → w.cell? (p.add j) = some u := fun j u hj => hr j u hj
 have hu' : P.underlying t = some (.slice e) := (T _ _ _ ht).under
 have h63 : m + 1 ≤ maxLen := by unfold maxLen; omega
 have key : ∃ g cap' w', (Builtin.append_ #[t, t] ty #[.slice a m m, .slice (some p) 1 cap]).run P w = .ok (.slice (some ⟨g, 0, none⟩) (m + 1) cap') w' ∧ m + 1 ≤ cap' ∧ Row w' ⟨g, 0, none⟩ (cs ++ us) ∧ w.heap.size ≤ g ∧ g < w'.heap.size ∧ Ext w w' := by
  have fin : ∀ (v' : Value) (w' : World), w'.ownsRow w.heap.size e sz v' (m + 1) (cs ++ us) → w.grownBy w' none → ∃ g cap', v' = .slice (some ⟨g, 0, none⟩) (m + 1) cap' ∧ m + 1 ≤ cap' ∧ Row w' ⟨g, 0, none⟩ (cs ++ us) ∧ w.heap.size ≤ g ∧ g < w'.heap.size ∧ Ext w w' := fun v' w' h1 h2 => by
   have ho : Own w' w.heap.size e sz v' (m + 1) (cs ++ us) := h1; have hx : Ext w w' := ⟨h2.os, h2.tape, h2.output, h2.size, fun k hk => h2.block k hk (by simp)⟩
   rcases ho.row with ⟨-, h0, -⟩ | ⟨g, cap', rfl, hg, hob, hrr⟩
   · omega
   · exact ⟨g, cap', rfl, own_cap ho, hrr, hg, (ho.blk hob).2, hx⟩
  cases a with
  | some b =>
   obtain ⟨v', w', hrun, h1, h2⟩ := run_append_arg_grows (P := P) w t ty e i v0 sz i.bytes hu' z1 z2 hs' rfl hzs hsz' b m m cs hcl (fun j u hj => by
    rcases hs with rfl | ⟨b', o, hb, -, hrow⟩
    · simp at hj
    · obtain rfl := Option.some.inj hb
      exact hrow j u hj) p 1 cap us hul hnews (by omega) h63 hbytes
   obtain ⟨g, cap', rfl, k⟩ := fin v' w' h1 h2
   exact ⟨g, cap', w', hrun, k⟩
  | none =>
   have hc0 : cs = [] := by
    rcases hs with rfl | ⟨b', o, hb, -⟩
    · rfl
    · cases hb
   subst hc0
   have hm0 : m = 0 := by
    simp only [List.length_nil] at hcl
    rcases Nat.eq_zero_or_pos m with h | h
    · exact h
    · have := Nat.mul_pos h hsz'; omega
   subst hm0
   have h1c : ∀ u ∈ us, u.oneCell' = true := fun u hm => by rw [← one_iff]; exact List.all_eq_true.1 hu u hm
   obtain ⟨v', w', hrun, h1, h2, -⟩ := run_append_own (P := P) w w.heap.size t ty e i v0 sz i.bytes hu' z1 z2 hs' rfl hzs hsz' (.slice none 0 0) 0 [] Own.nil p 1 cap us hul hnews h1c (by unfold maxLen; omega) (by simpa using hbytes) (Nat.le_refl _); obtain ⟨g, cap', rfl, k⟩ := fin v' w' (by simpa using h1) (by simpa [Value.ownBlock] using h2)
   exact ⟨g, cap', w', hrun, k⟩
 obtain ⟨g, cap', w', hrun, k⟩ := key
 unfold Does
 intro act dst pos after gd next Q ha hn _
 have e1 : (execOp act.eval ⟨dst, .call ⟨.builtin .append, #[x, y], #[t, t]⟩, ty, pos, after, gd⟩).run P w = .ok (.value (.slice (some ⟨g, 0, none⟩) (m + 1) cap')) w' := by
  simp only [execOp, resolve, invoke, builtin, Sem.run_bind, Sem.run_pure, Result.andThen_ok, List.map_toArray, List.map_cons, List.map_nil, ha.ev hx, ha.ev hy, hrun]
 unfold Oper.wp
 rw [e1]
 exact hn _ _ ⟨g, cap', rfl, k⟩
end
end Bk
namespace Bk
open Go Go.RowKit Go.Proofs
end Bk
namespace Bk
open Go Go.RowKit Go.Proofs
attribute [local irreducible] Go.Calls
theorem PDs.ltA {S : Nat → Prop} {w : World} {l : List PD} {a : Option Addr} (h : PDs S w l a) : PDs (· < w.heap.size) w l a := by
 rcases h with h | ⟨b, o, h1, h2, h3⟩
 · exact Or.inl h
 · cases l with
   | nil => exact Or.inl rfl
   | cons v r =>
    obtain ⟨_, _, _, _, hr, -, -⟩ := h3 0 v rfl; refine Or.inr ⟨b, o, h1, cell_lt (Row.at0 hr rfl), fun i x hi => ?_⟩; obtain ⟨pa, pc, ba, bc, hr, hv, hs⟩ := h3 i x hi
    exact ⟨pa, pc, ba, bc, hr, hv.lt2.wide (fun _ h => h.2), sits_ltA _ _ hs⟩
structure PG.few (g : PG) : Prop where
 nv : g.vars.length ≤ 1000000
 np : g.procs.length ≤ 1000000
 main : g.main.size ≤ 1000000
 procs : ∀ p ∈ g.procs, p.params.length ≤ 1000000 ∧ p.body.size ≤ 1000000
end Bk
namespace Bk
open Go Go.RowKit Go.Proofs
attribute [local irreducible] Go.Calls
set_option maxRecDepth 100000 in
set_option maxHeartbeats 4000000 in
theorem fresh_c (l : List VD) (hl : l.length ≤ 1000000) (s : List UInt8) (S : Nat → Prop) (a : Option Addr) (c : Nat) (w : World) (hs : VDs S w l a) :
 Calls Tryz.prog 24 #[.slice a l.length c, str s] w fun e w' => e = .returned (.int .i64 (freshE l s)) ∧ Ext w w' := by
 have X := Ext.refl w; have HF := Lib.hid (Find_c l hl s)
 unfold freshE
 generalize findV l s = o at *
 cases o with
 | none =>
  dsimp only [Option.isSome, Option.getD] at HF ⊢; refine calls_in Tryz.func24 Tryz.ntmps24 rfl rfl ?_
  focus
   refine cS (C1 Pa (cT (cw_seq (cS (C1 Mv (C1 Mv ?_)))))); refine cC rfl (HF.out _ _ _ _ (by assumption)) ?_; rintro _ w2 ⟨⟨⟩, x1⟩; have z3 := x1.size; replace hs := hs.ext x1; replace X := X.ext x1; clear x1; refine C1 Mv (C1 Px (C1 Px ?_)); (refine lw_alloc' [_, _, _] zOk rfl rfl ?_; intro b4 w5 n6); (refine lw_init' [_, _, _] tabOk rfl rfl rfl rfl rfl rfl n6 rfl ?_; clear n6; clear w5; intro w7 n6); have h8 := n6.blk; have x9 := n6.ext; have p10 := n6.pos; have z11 := n6.size; clear n6; replace hs := hs.ext x9; replace X := X.ext x9; clear x9; refine C1 Pa (cN (C1 Mv (cT (cw_cond_f rfl (cw_skip (qw_then (cS (C1 Pa (cT (cw_ret (qw_ret1 rfl rfl ?_))))))))))); rotate_left 1
  exact ⟨rfl, X⟩
 | some v =>
  obtain ⟨vn, vk, vl⟩ := v; dsimp only [Option.isSome, Option.getD] at HF ⊢; refine calls_in Tryz.func24 Tryz.ntmps24 rfl rfl ?_
  focus
   refine cS (C1 Pa (cT (cw_seq (cS (C1 Mv (C1 Mv ?_)))))); refine cC rfl (HF.out _ _ _ _ (by assumption)) ?_; rintro _ wa2 ⟨⟨⟩, xa1⟩; have za3 := xa1.size; replace hs := hs.ext xa1; replace X := X.ext xa1; clear xa1; refine C1 Mv (C1 Px (C1 Px ?_)); (refine lw_alloc' [_, _, _] zOk rfl rfl ?_; intro ba4 wa5 na6); (refine lw_init' [_, _, _] tabOk rfl rfl rfl rfl rfl rfl na6 rfl ?_; clear na6; clear wa5; intro wa7 na6); have ha8 := na6.blk; dsimp only at ha8; have xa9 := na6.ext; have pa10 := na6.pos; have za11 := na6.size; clear na6; replace hs := hs.ext xa9; replace X := X.ext xa9; clear xa9; refine C1 Pa (cN (C1 Mv (cT (cw_cond_t rfl (cS (C1 Pa (cT (cw_ret (qw_then_ret (qw_ret1 rfl rfl ?_)))))))))); rotate_left 1
  exact ⟨rfl, X⟩
set_option maxRecDepth 100000 in
set_option maxHeartbeats 4000000 in
theorem use_c (l : List VD) (hl : l.length ≤ 1000000) (s : List UInt8) (k : Int) (S : Nat → Prop) (a : Option Addr) (c : Nat) (w : World) (hs : VDs S w l a) :
 Calls Tryz.prog 89 #[.slice a l.length c, str s, .int .u8 k] w fun e w' => e = .returned (.int .i64 (useE l s k)) ∧ Ext w w' := by
 have X := Ext.refl w; have HF := Lib.hid (Find_c l hl s)
 unfold useE
 generalize findV l s = o at *
 cases o with
 | none =>
  dsimp only [Option.isSome, Option.getD] at HF; refine calls_in Tryz.func89 Tryz.ntmps89 rfl rfl ?_
  focus
   refine cS (C1 Pa (cN (C1 Mv (C1 Mv ?_)))); refine cC rfl (HF.out _ _ _ _ (by assumption)) ?_; rintro _ w2 ⟨⟨⟩, x1⟩; have z3 := x1.size; replace hs := hs.ext x1; replace X := X.ext x1; clear x1; refine C1 Mv (C1 Px (C1 Px ?_)); (refine lw_alloc' [_, _, _] zOk rfl rfl ?_; intro b4 w5 n6); (refine lw_init' [_, _, _] tabOk rfl rfl rfl rfl rfl rfl n6 rfl ?_; clear n6; clear w5; intro w7 n6); have h8 := n6.blk; have x9 := n6.ext; have p10 := n6.pos; have z11 := n6.size; clear n6; replace hs := hs.ext x9; replace X := X.ext x9; clear x9; refine C1 Pa (cT (cw_seq (cw_block (cS (C1 Mv (C1 Pt (C1 Pa (cT (cw_cond_t rfl (cS (C1 Pa ?_))))))))))); refine cT (cw_ret (qw_block_ret (qw_then_ret (qw_ret1 rfl rfl ?_)))); rotate_left 1
  exact ⟨rfl, X⟩
 | some v =>
  obtain ⟨vn, vk, vl⟩ := v; dsimp only [Option.isSome, Option.getD] at HF ⊢; refine calls_in Tryz.func89 Tryz.ntmps89 rfl rfl ?_
  focus
   refine cS (C1 Pa (cN (C1 Mv (C1 Mv ?_)))); refine cC rfl (HF.out _ _ _ _ (by assumption)) ?_; rintro _ wa2 ⟨⟨⟩, xa1⟩; have za3 := xa1.size; replace hs := hs.ext xa1; replace X := X.ext xa1; clear xa1; refine C1 Mv (C1 Px (C1 Px ?_)); (refine lw_alloc' [_, _, _] zOk rfl rfl ?_; intro ba4 wa5 na6); (refine lw_init' [_, _, _] tabOk rfl rfl rfl rfl rfl rfl na6 rfl ?_; clear na6; clear wa5; intro wa7 na6); have ha8 := na6.blk; dsimp only at ha8; have xa9 := na6.ext; have pa10 := na6.pos; have za11 := na6.size; clear na6; replace hs := hs.ext xa9; replace X := X.ext xa9; clear xa9; refine C1 Pa (cT (cw_seq (cw_block (cS (C1 Mv (C1 Pt (C1 Pa (cT (cw_cond_f rfl (cS (C1 Pf ?_))))))))))); refine C1 (Pl ha8) (C1 Mv (C1 V2 (C1 Pa (cT ?_)))); refine cw_decn rfl (fun ca12 => ?_) (fun ca12 => ?_); refine cS (C1 Pa (cT (cw_ret (qw_block_ret (qw_then_ret (qw_ret1 rfl rfl ?_)))))); rotate_left 1; refine cw_skip (qw_block_norm (qw_then (cS (C1 Pa (cT (cw_ret (qw_ret1 rfl rfl ?_))))))); rotate_left 1
  all_goals exact ⟨by simp [*], X⟩
def procN (ps : List PD) (s : List UInt8) : Int := match procI ps s with
 | some i => (i : Int)
 | none => -1
theorem PDs.get {S : Nat → Prop} {w : World} {l : List PD} {a : Option Addr} (h : PDs S w l a) (hl : l ≠ []) : ∃ b o, a = some ⟨b, o, none⟩ ∧ S b ∧ ∀ i p, l[i]? = some p → PDAt S w b (o + i * 6) p := by
 rcases h with h | ⟨b, o, h1, h2, h3⟩
 · exact absurd h hl
 · exact ⟨b, o, h1, h2, fun i v hi => h3 i v hi⟩
set_option maxRecDepth 100000 in
set_option maxHeartbeats 4000000 in
theorem proc1_c (p : PD) (pa ba : Option Addr) (pc bc bs : Nat) (s : List UInt8) (w : World) (hb : Blk w bs [str s]) : Calls Tryz.prog 46 #[.agg (p.cells pa pc ba bc).toArray, .pointer (some ⟨bs, 0, none⟩)] w fun e w' => e = .returned (.bool (decide (p.name = s))) ∧ Ext w w' := by
 have X := Ext.refl w; refine calls_in Tryz.func46 Tryz.ntmps46 rfl rfl ?_
 focus
  refine cS ?_; (refine lw_box' [_, _, _, _, _, _] rfl rfl rfl ?_; intro b1 w2 n3); have h4 := n3.blk; have x5 := n3.ext; have p6 := n3.pos; have z7 := n3.size; clear n3; replace hb := hb.ext x5; replace X := X.ext x5; clear x5; refine C1 Pa (cN (C1 Pg (C1 (Pl h4) (C1 (Pl hb) (C1 V8 (C1 Pa (cT (cw_ret (qw_ret1 rfl rfl ?_))))))))); rotate_left 1
 exact ⟨rfl, X⟩
theorem findIdxP_take {α : Type} {f : α → Bool} {l : List α} {j : Nat} (h : j < l.length) (h0 : (l.take j).findIdx? f = none) : (l.take (j + 1)).findIdx? f = if f l[j] = true then some j else none := by
 rw [List.take_succ_eq_append_getElem h, List.findIdx?_append, h0]
 by_cases hf : f l[j] = true
 · simp [hf, List.findIdx?_cons]; omega
 · simp [hf, List.findIdx?_cons]
theorem findIdxP_mono {α : Type} {f : α → Bool} {l : List α} {j i : Nat} (h : (l.take j).findIdx? f = some i) : l.findIdx? f = some i := by
 rw [← List.take_append_drop j l, List.findIdx?_append, h]; rfl
set_option maxRecDepth 100000 in
set_option maxHeartbeats 4000000 in
theorem IndexP_c (l : List PD) (hl : l.length ≤ 1000000) (s : List UInt8) (S : Nat → Prop) (a : Option Addr) (c bs : Nat) (w : World) (hs : PDs S w l a) (hb : Blk w bs [str s]) :
 Calls Tryz.prog 45 #[.slice a l.length c, .func (.func 46) #[] #[.pointer (some ⟨bs, 0, none⟩)]] w fun e w' => e = .returned (.int .i64 (procN l s)) ∧ Ext w w' := by
 have X := Ext.refl w; replace hs := hs.ltA; refine calls_in Tryz.func45 Tryz.ntmps45 rfl rfl ?_
 focus
  refine cS (C1 Pa (cT (cw_seq (cS (C1 Mv (C1 Pz (C1 Mv (cT ?_)))))))); rotate_left 1
 refine cw_block ?_; refine cw_loop (ι := Nat) (fun j => [(0, .slice a l.length c), (1, .func (.func 46) #[] #[.pointer (some ⟨bs, 0, none⟩)]), (6, .slice a l.length c), (7, .int .i64 l.length), (8, .int .i64 j)])
  (fun j w' => j ≤ l.length ∧ PDs (· < w.heap.size) w' l a ∧ Blk w' bs [str s] ∧ Ext w w' ∧ (l.take j).findIdx? (fun p => decide (p.name = s)) = none)
  (fun j => l.length - j) 0 (by (refine sub_cons rfl ?_; refine sub_cons rfl ?_; refine sub_cons rfl ?_; refine sub_cons rfl ?_; refine sub_cons rfl ?_; exact sub_nil)) ⟨Nat.zero_le _, hs, hb, X, rfl⟩ ?_
 clear hs hb X; rintro j w1 ⟨hj, hs, hb, X, hno⟩
 by_cases hlt : j < l.length
 · obtain ⟨kb, ko, rfl, kS, hget⟩ := hs.get (by intro e; subst e; simp at hlt)
   obtain ⟨pa, pc, ba, bc, ry, -, -⟩ := hget j l[j] (List.getElem?_eq_getElem hlt); have hn := findIdxP_take hlt hno
   have hmo : l[j].name = s → procN l s = j := fun h => by
    rw [if_pos (by simpa using h)] at hn; rw [procN, procI, findIdxP_mono hn]
   clear hget hno
   generalize l[j] = y at *
   focus
    refine cS (C1 V3 (cT (cw_seq (Wyo (cw_skip (qw_then (cw_seq (cw_block (cS (C1 Mv (C1 Pa ?_))))))))))); refine cN (C1 Mv (C1 Mv (C1 Mv (C1 Pi (C1 (Pws ry) ?_))))); refine lw_does (does_callv (fi := []) (ca := [.pointer (some ⟨bs, 0, none⟩)]) (by kernel_rfl) rfl rfl (proc1_c y pa ba pc bc _ s _ (by assumption)) (fun _ _ h => ⟨_, h.1⟩)) rfl ?_ (fun _ h => h); rintro _ wa2 ⟨⟨⟩, xa1⟩; have za3 := xa1.size; replace hb := hb.ext xa1; replace X := X.ext xa1; replace hs := hs.ext xa1; replace ry := ry.ext xa1; clear xa1; refine cT ?_; refine cw_dec rfl (fun ca4 => ?_) (fun ca4 => ?_); refine cS (C1 Mv (C1 Pa (cT (cw_ret (qw_block_ret (qw_then_ret (qw_then_ret (qw_block_ret (qw_then_ret (qw_ret1 rfl rfl ?_)))))))))); rotate_left 1; refine cw_skip (qw_block_norm (qw_then (cw_region (C1 V7 (C1 Mv (lw_nil ?_)))))); rotate_left 1
   · exact ⟨by rw [hmo (by assumption)], X⟩
   · exact qw_round (j + 1) (by (refine sub_cons rfl ?_; refine sub_cons rfl ?_; refine sub_cons rfl ?_; refine sub_cons rfl ?_; refine sub_cons rfl ?_; exact sub_nil)) ⟨by omega, hs, hb, X, hn.trans (if_neg (by simpa using (by assumption)))⟩ (by omega)
 · obtain rfl : j = l.length := by omega
   rw [List.take_length] at hno
   have he : procN l s = -1 := by rw [procN, procI, hno]
   rw [he]
   focus
    refine cS (C1 V3 (cT (cw_seq (Wno (cw_exit (qw_then_exit (qw_then_exit (qw_block_exit (qw_then (cS (C1 Pa ?_))))))))))); refine cT (cw_ret (qw_ret1 rfl rfl ?_)); rotate_left 1
   exact ⟨rfl, X⟩
set_option maxRecDepth 100000 in
set_option maxHeartbeats 4000000 in
theorem Proc_c (g : PG) (hl : g.procs.length ≤ 1000000) (s : List UInt8) (S : Nat → Prop) (va : Option Addr) (vc : Nat) (pa : Option Addr) (pc : Nat) (ma : Option Addr) (mc : Nat) (w : World) (hs : PDs S w g.procs pa) :
 Calls Tryz.prog 25 #[.agg (g.cells va vc pa pc ma mc).toArray, str s] w fun e w' => e = .returned (.int .i64 (procN g.procs s)) ∧ Ext w w' := by
 have X := Ext.refl w; replace hs := hs.ltA; refine calls_in Tryz.func25 Tryz.ntmps25 rfl rfl ?_
 focus
  refine cS ?_; (refine lw_box' [_, _, _, _, _, _] rfl rfl rfl ?_; intro b1 w2 n3); have h4 := n3.blk; have x5 := n3.ext; have p6 := n3.pos; have z7 := n3.size; clear n3; replace X := X.ext x5; replace hs := hs.ext x5; clear x5; (refine lw_box' [_] rfl rfl rfl ?_; intro b8 w9 n10); have h11 := n10.blk; have x12 := n10.ext; have p13 := n10.pos; have z14 := n10.size; clear n10; replace h4 := h4.ext x12; replace X := X.ext x12; replace hs := hs.ext x12; clear x12; refine C1 Pa (cN (C1 Pf (C1 (Pl h4) (C1 (pur_funcC rfl) ?_)))); refine cC rfl (IndexP_c _ hl s _ _ _ _ _ (by assumption) (by assumption)) ?_; rintro _ w16 ⟨⟨⟩, x15⟩; have z17 := x15.size; replace h11 := h11.ext x15; replace h4 := h4.ext x15; replace X := X.ext x15; replace hs := hs.ext x15; clear x15; refine C1 Pa (cT (cw_ret (qw_ret1 rfl rfl ?_))); rotate_left 1
 exact ⟨rfl, X⟩
set_option maxRecDepth 100000 in
set_option maxHeartbeats 4000000 in
theorem ClipI_c (a : Option Addr) (n c : Nat) (w : World) (hc : n ≤ c) (hn : n ≤ 1000000) : Calls Tryz.prog 90 #[.slice a n c] w fun e w' => e = .returned (.slice a n n) ∧ w = w' := by
 refine calls_in Tryz.func90 Tryz.ntmps90 rfl rfl ?_
 focus
  refine cS (C1 Pa (cN (C1 Mv (C1 Mv (C1 Pz (C1 Mv (C1 Pz (C1 (pur_clip tabOk rfl rfl rfl rfl rfl hc) (C1 Pa (cT (cw_ret ?_))))))))))); refine qw_ret1 rfl rfl ?_; rotate_left 1
 exact ⟨rfl, rfl⟩
set_option maxRecDepth 100000 in
set_option maxHeartbeats 4000000 in
theorem ClipV_c (a : Option Addr) (n c : Nat) (w : World) (hc : n ≤ c) (hn : n ≤ 1000000) : Calls Tryz.prog 91 #[.slice a n c] w fun e w' => e = .returned (.slice a n n) ∧ w = w' := by
 refine calls_in Tryz.func91 Tryz.ntmps91 rfl rfl ?_
 focus
  refine cS (C1 Pa (cN (C1 Mv (C1 Mv (C1 Pz (C1 Mv (C1 Pz (C1 (pur_clip tabOk rfl rfl rfl rfl rfl hc) (C1 Pa (cT (cw_ret ?_))))))))))); refine qw_ret1 rfl rfl ?_; rotate_left 1
 exact ⟨rfl, rfl⟩
end Bk
namespace Bk
open Go Go.RowKit Go.Proofs
attribute [local irreducible] Go.Calls
def PathAt (S : Nat → Prop) (w : World) (a : Option Addr) (n c : Nat) : Prop := (n ≤ c ∧ (a = none → c = 0)) ∧ ∃ cs : List Value, cs.length = n * 1 ∧ cs.all Value.one = true ∧ Rows S w cs a
theorem PathAt.nil {S : Nat → Prop} {w : World} : PathAt S w none 0 0 := ⟨⟨Nat.le_refl _, fun _ => rfl⟩, [], rfl, rfl, Or.inl rfl⟩
theorem PathAt.ext {S : Nat → Prop} {w w' : World} {a : Option Addr} {n c : Nat} (h : PathAt S w a n c) (x : Ext w w') : PathAt S w' a n c := ⟨h.1, by obtain ⟨cs, h1, h2, h3⟩ := h.2; exact ⟨cs, h1, h2, h3.ext x⟩⟩
theorem PathAt.fr {S T : Nat → Prop} {w w' : World} {a : Option Addr} {n c : Nat} (h : PathAt S w a n c) (x : Fr T w w') (hs : ∀ b, S b → ¬ T b) : PathAt S w' a n c := ⟨h.1, by obtain ⟨cs, h1, h2, h3⟩ := h.2; exact ⟨cs, h1, h2, h3.fr x hs⟩⟩
theorem PathAt.wide {S S' : Nat → Prop} {w : World} {a : Option Addr} {n c : Nat} (h : PathAt S w a n c) (hS : ∀ b, S b → S' b) : PathAt S' w a n c := ⟨h.1, by obtain ⟨cs, h1, h2, h3⟩ := h.2; exact ⟨cs, h1, h2, h3.wide hS⟩⟩
theorem PathAt.clone {S : Nat → Prop} {w : World} {a : Option Addr} {n c : Nat} (h : PathAt S w a n c) (hn : n ≤ 1000000) : Calls Tryz.prog 23 #[.slice a n c] w (SliceR n w) := by
 obtain ⟨⟨h1, h0⟩, cs, h2, h3, h4⟩ := h
 cases a with
 | some p => exact pathClone_c cs n h2 h3 (by omega) S p c w h4
 | none =>
  have hc := h0 rfl; subst hc
  obtain rfl : n = 0 := by omega
  exact pathClone_n w
def ChildR (n : Nat) (w : World) : Ending → World → Prop := fun e w' => ∃ g c, e = .returned (.slice (some ⟨g, 0, none⟩) (n + 1) c) ∧ PathAt (fun b => w.heap.size ≤ b ∧ b < w'.heap.size) w' (some ⟨g, 0, none⟩) (n + 1) c ∧ Ext w w'
theorem ChildR.ret {n : Nat} {w : World} {e : Ending} {w' : World} (h : ChildR n w e w') : ∃ v, e = .returned v := by
 obtain ⟨_, _, h, -⟩ := h
 exact ⟨_, h⟩
set_option maxRecDepth 100000 in
set_option maxHeartbeats 4000000 in
theorem child_c (i : Int) (S : Nat → Prop) (a : Option Addr) (n c : Nat) (w : World) (hn : n ≤ 1000000) (hp : PathAt S w a n c) : Calls Tryz.prog 48 #[.slice a n c, .int .i64 i] w (ChildR n w) := by
 have X := Ext.refl w; obtain ⟨⟨hc, -⟩, cs, h1, h2, h3⟩ := hp; replace h3 := h3.ltA; refine calls_in Tryz.func48 Tryz.ntmps48 rfl rfl ?_
 focus
  refine cS (C1 Pa (cN (C1 Mv (cC rfl (ClipI_c _ _ _ _ hc hn) ?_)))); rintro _ w1 ⟨⟨⟩, rfl⟩; refine C1 Mv ?_; (refine lw_does (does_slice' [_] tabOk zOk rfl rfl rfl rfl rfl rfl rfl rfl rfl) rfl ?_ (fun _ h => h); rintro _ w3 ⟨b2, rfl, n4, t5⟩); clear t5; have h6 := n4.blk; have x7 := n4.ext; have p8 := n4.pos; have z9 := n4.size; clear n4; replace X := X.ext x7; replace h3 := h3.ext x7; clear x7; refine lw_does (does_append_full tabOk zOk rfl rfl rfl rfl (by kernel_rfl) rfl rfl rfl (by assumption) h1 (Blk.row (by assumption)) rfl rfl (by omega)) rfl ?_ (fun _ h => h); rintro _ w17 ⟨g10, ⟨cap'11, ⟨rfl, ⟨h12, ⟨h13, ⟨h14, ⟨h15, x16⟩⟩⟩⟩⟩⟩⟩; have z18 := x16.size; replace h6 := h6.ext x16; replace X := X.ext x16; replace h3 := h3.ext x16; clear x16; refine C1 Pa (cT (cw_ret (qw_ret1 rfl rfl ?_))); rotate_left 1
 exact ⟨_, _, rfl, ⟨⟨h12, fun e => by cases e⟩, cs ++ [.int .i64 i], by simp [h1], by rw [List.all_append, h2]; rfl, Or.inr ⟨_, _, rfl, ⟨by omega, by omega⟩, by assumption⟩⟩, X⟩
def InnerR (S : Nat → Prop) (L : List VD) (w : World) : Ending → World → Prop := fun e w' => ∃ a c, e = .returned (.slice a L.length c) ∧ L.length ≤ c ∧ VDs (fun b => S b ∨ (w.heap.size ≤ b ∧ b < w'.heap.size)) w' L a ∧ Ext w w'
theorem InnerR.ret {S : Nat → Prop} {L : List VD} {w : World} {e : Ending} {w' : World} (h : InnerR S L w e w') : ∃ v, e = .returned v := by
 obtain ⟨_, _, h, -⟩ := h
 exact ⟨_, h⟩
theorem innerR_new {S : Nat → Prop} {l : List VD} {v : VD} {g c : Nat} {w w' : World} (hc : l.length + 1 ≤ c) (hr : Row w' ⟨g, 0, none⟩ (l.flatMap VD.cells ++ v.cells)) (h1 : w.heap.size ≤ g) (h2 : g < w'.heap.size) (X : Ext w w') : InnerR S (l ++ [v]) w (.returned (.slice (some ⟨g, 0, none⟩) (l.length + 1) c)) w' := by
 refine ⟨some ⟨g, 0, none⟩, c, by simp, by simpa using hc, rows_vds (Or.inr ⟨g, 0, rfl, Or.inr ⟨h1, h2⟩, ?_⟩), X⟩; rw [List.flatMap_append]
 simpa using hr
set_option maxRecDepth 100000 in
set_option maxHeartbeats 4000000 in
theorem inner_c (k n : Int) (s : List UInt8) (kl : List Nd) (ka : Option Addr) (kc i : Nat) (l : List VD) (hl : l.length ≤ 1000000) (S : Nat → Prop) (a : Option Addr) (c : Nat) (w : World) (hc : l.length ≤ c) (hs : VDs S w l a) :
 Calls Tryz.prog 50 #[(Nd.mk k n s kl).val ka kc, .int .i64 i, .slice a l.length c] w (InnerR S (innerV k s i l) w) := by
 have X := Ext.refl w; have h1 := flatMap_len vd_len l; replace hs := vds_rows hs; have h0 := hs.ltA
 show Calls Tryz.prog 50 #[.agg #[.int .u8 k, .int .i64 n, str s, .slice ka kl.length kc], .int .i64 i, .slice a l.length c] w (InnerR S (innerV k s i l) w)
 by_cases h54 : k = 54 ∧ i = 1
 · have hv : innerV k s i l = l ++ [⟨s, 1, 0⟩] := by unfold innerV; rw [if_pos h54]
   rw [hv]; obtain ⟨rfl, rfl⟩ := h54; refine calls_in Tryz.func50 Tryz.ntmps50 rfl rfl ?_
   focus
    refine cS ?_; (refine lw_box' [_, _, _, _] rfl rfl rfl ?_; intro b1 w2 n3); have h4 := n3.blk; have x5 := n3.ext; have p6 := n3.pos; have z7 := n3.size; clear n3; replace X := X.ext x5; replace hs := hs.ext x5; replace h0 := h0.ext x5; clear x5; refine C1 Pa (cT (cw_seq (cw_block (cS (C1 Pg (C1 (Pl h4) (C1 V1 (C1 Mv (Gyd (C1 Mv (Gyd ?_))))))))))); refine C1 V1 (C1 Qyd (C1 Pa (cT (Wyd (cw_seq ?_))))); (refine cw_tdraw (fun wz => Ext w2 wz) 6 (.pure 0 (.pure 2 (.pure 3 (.pure 4 (.fork 1 (.fork 5 .tail .none) (.fork 5 (.fork 1 .tail .none) .none)))))) mixed (by kernel_rfl) (panicOk_then (panicOk_block (panicOk_then panicOk_body))) ?_; intro w8 x9 _); have qs10 : (fun wz => Ext w2 wz) w8 := x9; simp only at qs10; have d_h4 := h4; have d_hs := hs; have d_h0 := h0; have z11 := x9.size; replace h4 := h4.ext x9; replace X := X.ext x9; replace hs := hs.ext x9; replace h0 := h0.ext x9; clear x9; refine ⟨qs10, ?_⟩; refine Tq rfl Mv (Tq rfl Pf (Tq rfl (Db d_h4) (Tq rfl (pur_build' [_, _, _] tabOk zOk rfl rfl rfl rfl) ?_))); refine tw_does rfl (does_call (by kernel_rfl) rfl (ClipV_c _ _ _ _ hc hl) (fun _ _ h => ⟨_, h.1⟩)) rfl ?_ (fun _ h => h) ?kr12; rintro _ w13 ⟨⟨⟩, rfl⟩; refine ⟨qs10, ?_⟩; (refine tw_does rfl (does_slice' [_, _, _] tabOk zOk rfl rfl rfl rfl rfl rfl rfl rfl rfl) rfl ?_ (fun _ h => h) tw_none; rintro _ w16 ⟨b15, rfl, n17, t18⟩); clear t18; have h19 := n17.blk; have x20 := n17.ext; have p21 := n17.pos; have z22 := n17.size; clear n17; replace qs10 := qs10.ext x20; replace h4 := h4.ext x20
    replace X := X.ext x20; replace hs := hs.ext x20; replace h0 := h0.ext x20; clear x20; refine ⟨qs10, ?_⟩; clear d_h4 d_hs d_h0 qs10; refine tw_tail rfl ?_; refine lw_does (does_append_full tabOk zOk rfl rfl rfl rfl (by kernel_rfl) rfl rfl rfl (by assumption) h1 (Blk.row (by assumption)) rfl rfl (by omega)) rfl ?_ (fun _ h => h); rintro _ w30 ⟨g23, ⟨cap'24, ⟨rfl, ⟨h25, ⟨h26, ⟨h27, ⟨h28, x29⟩⟩⟩⟩⟩⟩⟩; have z31 := x29.size; replace h19 := h19.ext x29; replace h4 := h4.ext x29; replace X := X.ext x29; replace hs := hs.ext x29; replace h0 := h0.ext x29; clear x29; refine C1 Pa (cT (cw_ret (qw_block_ret (qw_then_ret (qw_ret1 rfl rfl ?_))))); rotate_left 1; (refine tw_does rfl (does_slice' [_, _, _] tabOk zOk rfl rfl rfl rfl rfl rfl rfl rfl rfl) rfl ?_ (fun _ h => h) tw_none; rintro _ w34 ⟨b33, rfl, n35, t36⟩); clear t36; have h37 := n35.blk; have x38 := n35.ext; have p39 := n35.pos; have z40 := n35.size; clear n35; replace qs10 := qs10.ext x38; replace h4 := h4.ext x38; replace X := X.ext x38; replace hs := hs.ext x38; replace h0 := h0.ext x38; clear x38; refine ⟨qs10, ?_⟩; refine tw_does rfl (does_call (by kernel_rfl) rfl (ClipV_c _ _ _ _ hc hl) (fun _ _ h => ⟨_, h.1⟩)) rfl ?_ (fun _ h => h) tw_none; rintro _ w42 ⟨⟨⟩, rfl⟩; refine ⟨qs10, ?_⟩; clear d_h4 d_hs d_h0 qs10; refine tw_tail rfl ?_; refine lw_does (does_append_full tabOk zOk rfl rfl rfl rfl (by kernel_rfl) rfl rfl rfl (by assumption) h1 (Blk.row (by assumption)) rfl rfl (by omega)) rfl ?_ (fun _ h => h); rintro _ w50 ⟨g43, ⟨cap'44, ⟨rfl, ⟨h45, ⟨h46, ⟨h47, ⟨h48, x49⟩⟩⟩⟩⟩⟩⟩
    have z51 := x49.size; replace h37 := h37.ext x49; replace h4 := h4.ext x49; replace X := X.ext x49; replace hs := hs.ext x49; replace h0 := h0.ext x49; clear x49; refine C1 Pa (cT (cw_ret (qw_block_ret (qw_then_ret (qw_ret1 rfl rfl ?_))))); rotate_left 1
   all_goals exact innerR_new (v := ⟨s, 1, 0⟩) (by assumption) (by assumption) (by omega) (by assumption) X
 by_cases h55 : k = 55 ∧ i = 0
 · have hv : innerV k s i l = l ++ [⟨s, 3, 0⟩] := by unfold innerV; rw [if_neg h54, if_pos h55]
   rw [hv]; obtain ⟨rfl, rfl⟩ := h55; clear h54; refine calls_in Tryz.func50 Tryz.ntmps50 rfl rfl ?_
   focus
    refine cS ?_; (refine lw_box' [_, _, _, _] rfl rfl rfl ?_; intro ba1 wa2 na3); have ha4 := na3.blk; have xa5 := na3.ext; have pa6 := na3.pos; have za7 := na3.size; clear na3; replace X := X.ext xa5; replace hs := hs.ext xa5; replace h0 := h0.ext xa5; clear xa5; refine C1 Pa (cT (cw_seq (cw_block (cS (C1 Pg (C1 (Pl ha4) (C1 V1 (C1 Mv (Ond (Ond (C1 Qnd ?_))))))))))); refine C1 Pa (cT (cw_cond_f rfl (cS (C1 Pg (C1 (Pl ha4) (C1 V1 (C1 Mv (Gyd (C1 Mv (Gyd (C1 V1 ?_))))))))))); refine C1 Qyd (C1 Pa (cT (Wyd (cw_seq ?_)))); (refine cw_tdraw (fun wz => Ext wa2 wz) 6 (.pure 0 (.pure 2 (.pure 3 (.pure 4 (.fork 1 (.fork 5 .tail .none) (.fork 5 (.fork 1 .tail .none) .none)))))) mixed (by kernel_rfl) (panicOk_then (panicOk_block (panicOk_then panicOk_body))) ?_; intro wa8 xa9 _); have qsa10 : (fun wz => Ext wa2 wz) wa8 := xa9; simp only at qsa10; have d_ha4 := ha4; have d_hs := hs; have d_h0 := h0; have za11 := xa9.size; replace ha4 := ha4.ext xa9; replace X := X.ext xa9; replace hs := hs.ext xa9; replace h0 := h0.ext xa9; clear xa9; refine ⟨qsa10, ?_⟩; refine Tq rfl Mv (Tq rfl Pf (Tq rfl (Db d_ha4) (Tq rfl (pur_build' [_, _, _] tabOk zOk rfl rfl rfl rfl) ?_))); refine tw_does rfl (does_call (by kernel_rfl) rfl (ClipV_c _ _ _ _ hc hl) (fun _ _ h => ⟨_, h.1⟩)) rfl ?_ (fun _ h => h) ?kra12; rintro _ wa13 ⟨⟨⟩, rfl⟩; refine ⟨qsa10, ?_⟩; (refine tw_does rfl (does_slice' [_, _, _] tabOk zOk rfl rfl rfl rfl rfl rfl rfl rfl rfl) rfl ?_ (fun _ h => h) tw_none; rintro _ wa16 ⟨ba15, rfl, na17, ta18⟩)
    clear ta18; have ha19 := na17.blk; have xa20 := na17.ext; have pa21 := na17.pos; have za22 := na17.size; clear na17; replace qsa10 := qsa10.ext xa20; replace ha4 := ha4.ext xa20; replace X := X.ext xa20; replace hs := hs.ext xa20; replace h0 := h0.ext xa20; clear xa20; refine ⟨qsa10, ?_⟩; clear d_ha4 d_hs d_h0 qsa10; refine tw_tail rfl ?_; refine lw_does (does_append_full tabOk zOk rfl rfl rfl rfl (by kernel_rfl) rfl rfl rfl (by assumption) h1 (Blk.row (by assumption)) rfl rfl (by omega)) rfl ?_ (fun _ h => h); rintro _ wa30 ⟨ga23, ⟨cap'a24, ⟨rfl, ⟨ha25, ⟨ha26, ⟨ha27, ⟨ha28, xa29⟩⟩⟩⟩⟩⟩⟩; have za31 := xa29.size; replace ha19 := ha19.ext xa29; replace ha4 := ha4.ext xa29; replace X := X.ext xa29; replace hs := hs.ext xa29; replace h0 := h0.ext xa29; clear xa29; refine C1 Pa (cT (cw_ret (qw_block_ret (qw_then_ret (qw_ret1 rfl rfl ?_))))); rotate_left 1; (refine tw_does rfl (does_slice' [_, _, _] tabOk zOk rfl rfl rfl rfl rfl rfl rfl rfl rfl) rfl ?_ (fun _ h => h) tw_none; rintro _ wa34 ⟨ba33, rfl, na35, ta36⟩); clear ta36; have ha37 := na35.blk; have xa38 := na35.ext; have pa39 := na35.pos; have za40 := na35.size; clear na35; replace qsa10 := qsa10.ext xa38; replace ha4 := ha4.ext xa38; replace X := X.ext xa38; replace hs := hs.ext xa38; replace h0 := h0.ext xa38; clear xa38; refine ⟨qsa10, ?_⟩; refine tw_does rfl (does_call (by kernel_rfl) rfl (ClipV_c _ _ _ _ hc hl) (fun _ _ h => ⟨_, h.1⟩)) rfl ?_ (fun _ h => h) tw_none; rintro _ wa42 ⟨⟨⟩, rfl⟩; refine ⟨qsa10, ?_⟩; clear d_ha4 d_hs d_h0 qsa10
    refine tw_tail rfl ?_; refine lw_does (does_append_full tabOk zOk rfl rfl rfl rfl (by kernel_rfl) rfl rfl rfl (by assumption) h1 (Blk.row (by assumption)) rfl rfl (by omega)) rfl ?_ (fun _ h => h); rintro _ wa50 ⟨ga43, ⟨cap'a44, ⟨rfl, ⟨ha45, ⟨ha46, ⟨ha47, ⟨ha48, xa49⟩⟩⟩⟩⟩⟩⟩; have za51 := xa49.size; replace ha37 := ha37.ext xa49; replace ha4 := ha4.ext xa49; replace X := X.ext xa49; replace hs := hs.ext xa49; replace h0 := h0.ext xa49; clear xa49; refine C1 Pa (cT (cw_ret (qw_block_ret (qw_then_ret (qw_ret1 rfl rfl ?_))))); rotate_left 1
   all_goals exact innerR_new (v := ⟨s, 3, 0⟩) (by assumption) (by assumption) (by omega) (by assumption) X
 · have hv : innerV k s i l = l := by unfold innerV; rw [if_neg h54, if_neg h55]
   rw [hv]; clear h0; refine calls_in Tryz.func50 Tryz.ntmps50 rfl rfl ?_
   focus
    refine cS ?_; (refine lw_box' [_, _, _, _] rfl rfl rfl ?_; intro bb1 wb2 nb3); have hb4 := nb3.blk; have xb5 := nb3.ext; have pb6 := nb3.pos; have zb7 := nb3.size; clear nb3; replace X := X.ext xb5; replace hs := hs.ext xb5; clear xb5; refine C1 Pa (cT (cw_seq (cw_block (cS (C1 Pg (C1 (Pl hb4) (C1 V1 (C1 Mv ?_)))))))); refine lw_dec rfl rfl rfl (fun cb8 => ?_) (fun cb8 => ?_); refine Gya (C1 Mv (Gya (C1 V1 (C1 Qya (C1 Pa (cT (Wno (cS (C1 Pg (C1 (Pl hb4) (C1 V1 ?_))))))))))); refine C1 Mv (Ono (Ono (C1 Qno (C1 Pa (cT (cw_cond_f rfl (cw_skip (qw_block_norm (qw_then (cS (C1 Mv ?_))))))))))); refine C1 Pa (cT (cw_ret (qw_ret1 rfl rfl ?_))); rotate_left 1; refine Ona (Ona (C1 Qna (C1 Pa (cT (cw_cond_f rfl (cS (C1 Pg (C1 (Pl hb4) (C1 V1 (C1 Mv ?_)))))))))); refine lw_dec rfl rfl rfl (fun cb9 => ?_) (fun cb9 => ?_); refine Gya (C1 Mv (Gya (C1 V1 (C1 Qya (C1 Pa (cT (Wno (cw_skip (qw_block_norm (qw_then (cS ?_))))))))))); refine C1 Mv (C1 Pa (cT (cw_ret (qw_ret1 rfl rfl ?_)))); rotate_left 1; refine Ona (Ona (C1 Qna (C1 Pa (cT (cw_cond_f rfl (cw_skip (qw_block_norm (qw_then (cS (C1 Mv (C1 Pa ?_))))))))))); refine cT (cw_ret (qw_ret1 rfl rfl ?_)); rotate_left 1
   all_goals exact ⟨_, _, rfl, hc, (rows_vds (by assumption)).wide (fun _ h => Or.inl h), X⟩
end Bk
namespace Bk
open Go Go.RowKit Go.Proofs
attribute [local irreducible] Go.Calls
theorem procI_lt {ps : List PD} {s : List UInt8} {i : Nat} (h : procI ps s = some i) : i < ps.length := by
 unfold procI at h
 obtain ⟨hi, -⟩ := List.findIdx?_eq_some_iff_getElem.1 h
 exact hi
set_option maxRecDepth 100000 in
set_option maxHeartbeats 8000000 in
theorem fault_c (g : PG) (hg : g.procs.length ≤ 1000000) (k n : Int) (s : List UInt8) (l : List Nd) (ka : Option Addr) (kc : Nat) (v : List VD) (hv : v.length ≤ 1000000) (S S' : Nat → Prop) (va : Option Addr) (vc : Nat) (pa : Option Addr) (pc : Nat) (ma : Option Addr) (mc : Nat) (a : Option Addr) (c : Nat) (w : World) (hps : PDs S w g.procs pa) (hs : VDs S' w v a) :
 Calls Tryz.prog 47 #[.agg (g.cells va vc pa pc ma mc).toArray, (Nd.mk k n s l).val ka kc, .slice a v.length c] w fun e w' => e = .returned (.int .i64 (faultE g.procs v k s l.length)) ∧ Ext w w' := by
 have X := Ext.refl w; replace hps := hps.ltA; have HU := Lib.hid (use_c v hv s); have HF := Lib.hid (fresh_c v hv s); have HP := Lib.hid (Proc_c g hg s)
 show Calls Tryz.prog 47 #[.agg (g.cells va vc pa pc ma mc).toArray, .agg #[.int .u8 k, .int .i64 n, str s, .slice ka l.length kc], .slice a v.length c] w _
 refine calls_in Tryz.func47 Tryz.ntmps47 rfl rfl ?_
 focus
  refine cS ?_; (refine lw_box' [_, _, _, _, _, _] rfl rfl rfl ?_; intro b1 w2 n3); have h4 := n3.blk; have x5 := n3.ext; have p6 := n3.pos; have z7 := n3.size; clear n3; replace hs := hs.ext x5; replace X := X.ext x5; replace hps := hps.ext x5; clear x5; (refine lw_box' [_, _, _, _] rfl rfl rfl ?_; intro b8 w9 n10); have h11 := n10.blk; have x12 := n10.ext; have p13 := n10.pos; have z14 := n10.size; clear n10; replace h4 := h4.ext x12; replace hs := hs.ext x12; replace X := X.ext x12; replace hps := hps.ext x12; clear x12; refine C1 Pa (cT (cw_seq (cS (C1 Pg (C1 (Pl h11) (cT (cw_block (cS (C1 V1 (C1 Pa (cT ?_))))))))))); refine cw_dec rfl (fun c15 => ?_) (fun c15 => ?_); rotate_left 1; rotate_left 1
 · have he : faultE g.procs v k s l.length = useE v s 1 := by unfold faultE; rw [if_pos (by omega)]
   rw [he]
   focus
    refine cS (C1 Mv (C1 Pf (C1 (Pl h11) ?_))); refine cC rfl (HU.out _ _ _ _ _ (by assumption)) ?_; rintro _ wa2 ⟨⟨⟩, xa1⟩; have za3 := xa1.size; replace h11 := h11.ext xa1; replace h4 := h4.ext xa1; replace hs := hs.ext xa1; replace X := X.ext xa1; replace hps := hps.ext xa1; clear xa1; refine C1 Pa (cT (cw_ret (qw_block_ret (qw_then_ret (qw_ret1 rfl rfl ?_))))); rotate_left 1
   exact ⟨rfl, X⟩
 focus
  refine cS (C1 V1 (C1 Pa (cT ?_))); refine cw_dec rfl (fun cb1 => ?_) (fun cb1 => ?_); rotate_left 1; refine cw_seq ?_; rotate_left 1
 · have he : faultE g.procs v k s l.length = useE v s 2 := by unfold faultE; rw [if_neg (by omega), if_pos (by omega)]
   rw [he]
   focus
    refine cS (C1 Mv (C1 Pf (C1 (Pl h11) ?_))); refine cC rfl (HU.out _ _ _ _ _ (by assumption)) ?_; rintro _ wc2 ⟨⟨⟩, xc1⟩; have zc3 := xc1.size; replace h11 := h11.ext xc1; replace h4 := h4.ext xc1; replace hs := hs.ext xc1; replace X := X.ext xc1; replace hps := hps.ext xc1; clear xc1; refine C1 Pa (cT (cw_ret (qw_block_ret (qw_then_ret (qw_ret1 rfl rfl ?_))))); rotate_left 1
   exact ⟨rfl, X⟩
 refine cw_meet2 (ι := Unit) (fun _ => [(2, .slice a v.length c), (3, .pointer (some ⟨b1, 0, none⟩)), (4, .pointer (some ⟨b8, 0, none⟩)), (9, .int .u8 k), (22, .bool (decide (k = 4 ∨ k = 5 ∨ k = 44 ∨ k = 45)))]) (fun _ w' => w' = w9) ?_ ?_
 · focus
    refine cS (C1 V1 (C1 Pa (cT ?_))); refine cw_dec rfl (fun cd1 => ?_) (fun cd1 => ?_); refine cw_skip ?_; rotate_left 1; refine cS (C1 V1 (C1 Pa (cT ?_))); refine cw_dec rfl (fun cd2 => ?_) (fun cd2 => ?_); refine cw_skip ?_; rotate_left 1; refine cS (C1 V1 (C1 Pa (cT ?_))); refine cw_dec rfl (fun cd3 => ?_) (fun cd3 => ?_); refine cw_skip ?_; rotate_left 1; refine cw_region (C1 V1 (C1 Pa (lw_nil ?_))); rotate_left 1
   all_goals exact qw_meet () (sub_cons rfl (sub_cons rfl (sub_cons rfl (sub_cons rfl (sub_cons' rfl (congrArg Value.bool (decide_eq_decide.2 (by omega))) sub_nil))))) rfl
 rintro - u1 h; subst h
 focus
  refine cw_dec rfl (fun ce1 => ?_) (fun ce1 => ?_); rotate_left 1; refine cw_seq ?_; rotate_left 1
 · have he : faultE g.procs v k s l.length = useE v s 3 := by unfold faultE; rw [if_neg (by omega), if_neg (by omega), if_pos (by omega)]
   rw [he]
   focus
    refine cS (C1 Mv (C1 Pf (C1 (Pl h11) ?_))); refine cC rfl (HU.out _ _ _ _ _ (by assumption)) ?_; rintro _ wf2 ⟨⟨⟩, xf1⟩; have zf3 := xf1.size; replace h11 := h11.ext xf1; replace h4 := h4.ext xf1; replace hs := hs.ext xf1; replace X := X.ext xf1; replace hps := hps.ext xf1; clear xf1; refine C1 Pa (cT (cw_ret (qw_block_ret (qw_then_ret (qw_ret1 rfl rfl ?_))))); rotate_left 1
   exact ⟨rfl, X⟩
 refine cw_meet2 (ι := Unit) (fun _ => [(2, .slice a v.length c), (3, .pointer (some ⟨b1, 0, none⟩)), (4, .pointer (some ⟨b8, 0, none⟩)), (9, .int .u8 k), (31, .bool (decide (k = 54 ∨ k = 55)))]) (fun _ w' => w' = u1) ?_ ?_
 · focus
    refine cS (C1 V1 (C1 Pa (cT ?_))); refine cw_dec rfl (fun cg1 => ?_) (fun cg1 => ?_); refine cw_skip ?_; rotate_left 1; refine cw_region (C1 V1 (C1 Pa (lw_nil ?_))); rotate_left 1
   all_goals exact qw_meet () (sub_cons rfl (sub_cons rfl (sub_cons rfl (sub_cons rfl (sub_cons' rfl (congrArg Value.bool (decide_eq_decide.2 (by omega))) sub_nil))))) rfl
 rintro - u2 h; subst h
 focus
  refine cw_dec rfl (fun ch1 => ?_) (fun ch1 => ?_); rotate_left 1; refine cw_seq ?_; rotate_left 1
 · have he : faultE g.procs v k s l.length = freshE v s := by unfold faultE; rw [if_neg (by omega), if_neg (by omega), if_neg (by omega), if_pos (by omega)]
   rw [he]
   focus
    refine cS (C1 Mv (C1 Pf (C1 (Pl h11) ?_))); refine cC rfl (HF.out _ _ _ _ (by assumption)) ?_; rintro _ wi2 ⟨⟨⟩, xi1⟩; have zi3 := xi1.size; replace h11 := h11.ext xi1; replace h4 := h4.ext xi1; replace hs := hs.ext xi1; replace X := X.ext xi1; replace hps := hps.ext xi1; clear xi1; refine C1 Pa (cT (cw_ret (qw_block_ret (qw_then_ret (qw_ret1 rfl rfl ?_))))); rotate_left 1
   exact ⟨rfl, X⟩
 refine cw_meet2 (ι := Unit) (fun _ => [(2, .slice a v.length c), (3, .pointer (some ⟨b1, 0, none⟩)), (4, .pointer (some ⟨b8, 0, none⟩)), (9, .int .u8 k), (38, .bool (decide (k = 50 ∨ k = 51)))]) (fun _ w' => w' = u2) ?_ ?_
 · focus
    refine cS (C1 V1 (C1 Pa (cT ?_))); refine cw_dec rfl (fun cj1 => ?_) (fun cj1 => ?_); refine cw_skip ?_; rotate_left 1; refine cw_region (C1 V1 (C1 Pa (lw_nil ?_))); rotate_left 1
   all_goals exact qw_meet () (sub_cons rfl (sub_cons rfl (sub_cons rfl (sub_cons rfl (sub_cons' rfl (congrArg Value.bool (decide_eq_decide.2 (by omega))) sub_nil))))) rfl
 rintro - u3 h; subst h
 focus
  refine cw_dec rfl (fun ck1 => ?_) (fun ck1 => ?_); rotate_left 1; refine cw_skip (qw_block_norm (qw_then (cS (C1 Pa (cT (cw_ret (qw_ret1 rfl rfl ?_))))))); rotate_left 1
 · have he : faultE g.procs v k s l.length = callE g.procs s l.length := by unfold faultE; rw [if_neg (by omega), if_neg (by omega), if_neg (by omega), if_neg (by omega), if_pos (by omega)]
   rw [he]
   unfold callE
   have HP2 := Lib.hid (HP.out (· < w.heap.size) va vc pa pc ma mc)
   unfold procN at HP2
   cases hq : procI g.procs s with
   | none =>
    rw [hq] at HP2; dsimp only at HP2
    focus
     refine cS (lw_loads_b' [_, _, _, _, _, _] tabOk rfl rfl rfl h4 rfl rfl rfl (C1 Pf (C1 (Pl h11) ?_))); refine cC rfl (HP2.out _ (by assumption)) ?_; rintro _ wl2 ⟨⟨⟩, xl1⟩; have zl3 := xl1.size; replace h11 := h11.ext xl1; replace h4 := h4.ext xl1; replace hs := hs.ext xl1; replace X := X.ext xl1; replace hps := hps.ext xl1; clear xl1; refine C1 Pa (cT (cw_seq (cS (C1 Mv (C1 V3 (cT (Wyd (cS (C1 Pa (cT (cw_ret ?_))))))))))); refine qw_then_ret (qw_block_ret (qw_then_ret (qw_ret1 rfl rfl ?_))); rotate_left 1
    exact ⟨rfl, X⟩
   | some i =>
    rw [hq] at HP2; dsimp only at HP2; have hi := procI_lt hq; obtain ⟨kb, ko, rfl, kS, hget⟩ := hps.get (by intro e; rw [e] at hi; simp at hi); obtain ⟨qa, qc, ba, bc, r0, -, -⟩ := hget i g.procs[i] (List.getElem?_eq_getElem hi)
    have hm : ((g.procs[i]?.map fun p => p.params.length).getD 0) = g.procs[i].params.length := by rw [List.getElem?_eq_getElem hi]; rfl
    dsimp only; rw [hm]; clear hget hm hq
    generalize g.procs[i] = y at *
    focus
     refine cS (lw_loads_b' [_, _, _, _, _, _] tabOk rfl rfl rfl h4 rfl rfl rfl (C1 Pf (C1 (Pl h11) ?_))); refine cC rfl (HP2.out _ (by assumption)) ?_; rintro _ wm2 ⟨⟨⟩, xm1⟩; have zm3 := xm1.size; replace h11 := h11.ext xm1; replace hs := hs.ext xm1; replace X := X.ext xm1; replace h4 := h4.ext xm1; replace hps := hps.ext xm1; replace r0 := r0.ext xm1; clear xm1; refine C1 Pa (cT (cw_seq (cS (C1 Mv (C1 V3 (cT (Wno (cw_skip (qw_then (cw_seq ?_)))))))))); (refine cw_tdraw (fun wz => Ext wm2 wz) 10 (.pure 0 (.pure 1 (.pure 2 (.pure 3 (.pure 4 (.pure 5 (.pure 6 (.pure 7 (.pure 8 (.pure 9 .tail)))))))))) mixed (by kernel_rfl) (panicOk_then (panicOk_block (panicOk_then panicOk_body))) ?_; intro wm4 xm5 _); have qsm6 : (fun wz => Ext wm2 wz) wm4 := xm5; simp only at qsm6; have d_h11 := h11; have d_hs := hs; have d_h4 := h4; have d_hps := hps; have d_r0 := r0; have zm7 := xm5.size; replace h11 := h11.ext xm5; replace hs := hs.ext xm5; replace X := X.ext xm5; replace h4 := h4.ext xm5; replace hps := hps.ext xm5; replace r0 := r0.ext xm5; clear xm5; refine ⟨qsm6, ?_⟩; refine Tq rfl Pf (Tq rfl (Db d_h11) (Tq rfl Pz (Tq rfl Pf (Tq rfl (Db d_h4) (Tq rfl Mv (Tq rfl Pi (Tq rfl Pf (Tq rfl (Dr d_r0) (Tq rfl Pz ?_))))))))); clear qsm6 d_h11 d_hs d_h4 d_hps d_r0; refine tw_tail rfl (C1 V2 (cT ?_)); refine cw_decn rfl (fun cm8 => ?_) (fun cm8 => ?_); refine cS (C1 Pa (cT (cw_ret (qw_block_ret (qw_then_ret (qw_ret1 rfl rfl ?_)))))); rotate_left 1; refine cw_skip (qw_block_norm (qw_then (cS (C1 Pa (cT (cw_ret (qw_ret1 rfl rfl ?_)))))))
     rotate_left 1
    · rw [if_neg (by omega)]
      exact ⟨rfl, X⟩
    · rw [if_pos (by omega)]
      exact ⟨rfl, X⟩
 · have he : faultE g.procs v k s l.length = 0 := by unfold faultE; rw [if_neg (by omega), if_neg (by omega), if_neg (by omega), if_neg (by omega), if_neg (by omega)]
   rw [he]
   exact ⟨rfl, X⟩
end Bk
namespace Bk
open Go Go.RowKit Go.Proofs
attribute [local irreducible] Go.Calls
set_option maxRecDepth 100000 in
set_option maxHeartbeats 8000000 in
theorem sargument_c (g : PG) (hg : g.procs.length ≤ 1000000) (k n : Int) (s : List UInt8) (l : List Nd) (hl : l.length ≤ 1000000) (i : Nat) (hi : i < l.length) (v : List VD) (hv : v.length ≤ 1000000) (S S' S'' : Nat → Prop) (va : Option Addr) (vc : Nat) (pa : Option Addr) (pc : Nat) (ma : Option Addr) (mc : Nat) (ka : Option Addr) (kc : Nat) (a : Option Addr) (c : Nat) (w : World) (hps : PDs S w g.procs pa) (hks : rowSits S'' w l ka) (hs : VDs S' w v a) :
 Calls Tryz.prog 49 #[.agg (g.cells va vc pa pc ma mc).toArray, (Nd.mk k n s l).val ka kc, .int .i64 i, .slice a v.length c] w fun e w' => e = .returned (.int .i64 (argE g.procs v s l.length i (l[i]'hi).name)) ∧ Ext w w' := by
 have X := Ext.refl w; replace hps := hps.ltA; replace hks := rowSits_ltA _ _ hks; obtain ⟨xb, xo, rfl, xS, hkid⟩ := kidRows hks (by intro e; subst e; simp at hi); obtain ⟨xa, xc, rx, -⟩ := hkid i l[i] (List.getElem?_eq_getElem hi); clear hkid hks; have HF := Lib.hid (Find_c v hv (l[i]).name); have HP := Lib.hid (Proc_c g hg s (· < w.heap.size) va vc pa pc ma mc)
 unfold procN at HP
 unfold argE
 generalize l[i] = x at *
 show Calls Tryz.prog 49 #[.agg (g.cells va vc pa pc ma mc).toArray, .agg #[.int .u8 k, .int .i64 n, str s, .slice (some ⟨xb, xo, none⟩) l.length kc], .int .i64 i, .slice a v.length c] w _
 generalize findV v x.name = o at *
 cases o with
 | none =>
  dsimp only [Option.isSome, Option.getD] at HF; refine calls_in Tryz.func49 Tryz.ntmps49 rfl rfl ?_
  focus
   refine cS ?_; (refine lw_box' [_, _, _, _, _, _] rfl rfl rfl ?_; intro b1 w2 n3); have h4 := n3.blk; have x5 := n3.ext; have p6 := n3.pos; have z7 := n3.size; clear n3; replace hs := hs.ext x5; replace X := X.ext x5; replace hps := hps.ext x5; replace rx := rx.ext x5; clear x5; (refine lw_box' [_, _, _, _] rfl rfl rfl ?_; intro b8 w9 n10); have h11 := n10.blk; have x12 := n10.ext; have p13 := n10.pos; have z14 := n10.size; clear n10; replace h4 := h4.ext x12; replace hs := hs.ext x12; replace X := X.ext x12; replace hps := hps.ext x12; replace rx := rx.ext x12; clear x12; refine C1 Pa (cN (C1 Mv (C1 Pf (C1 (Pl h11) (C1 Mv (C1 Pi (C1 Pf (C1 (Pw rx) ?_)))))))); refine cC rfl (HF.out _ _ _ _ (by assumption)) ?_; rintro _ w16 ⟨⟨⟩, x15⟩; have z17 := x15.size; replace h11 := h11.ext x15; replace h4 := h4.ext x15; replace hs := hs.ext x15; replace X := X.ext x15; replace hps := hps.ext x15; replace rx := rx.ext x15; clear x15; refine C1 Mv (C1 Px (C1 Px ?_)); (refine lw_alloc' [_, _, _] zOk rfl rfl ?_; intro b18 w19 n20); (refine lw_init' [_, _, _] tabOk rfl rfl rfl rfl rfl rfl n20 rfl ?_; clear n20; clear w19; intro w21 n20); have h22 := n20.blk; have x23 := n20.ext; have p24 := n20.pos; have z25 := n20.size; clear n20; replace h11 := h11.ext x23; replace h4 := h4.ext x23; replace hs := hs.ext x23; replace X := X.ext x23; replace hps := hps.ext x23; replace rx := rx.ext x23; clear x23; refine C1 Pa (cT (cw_seq (cS (C1 Mv (C1 Pt (cT (cw_cond_t rfl (cS (C1 Pa (cT (cw_ret ?_)))))))))))
   refine qw_then_ret (qw_ret1 rfl rfl ?_); rotate_left 1
  exact ⟨rfl, X⟩
 | some d =>
  obtain ⟨dn, dk, dl⟩ := d; dsimp only [Option.isSome, Option.getD] at HF ⊢
  cases hq : procI g.procs s with
  | none =>
   rw [hq] at HP; dsimp only [Option.bind] at HP ⊢; refine calls_in Tryz.func49 Tryz.ntmps49 rfl rfl ?_
   focus
    refine cS ?_; (refine lw_box' [_, _, _, _, _, _] rfl rfl rfl ?_; intro ba1 wa2 na3); have ha4 := na3.blk; have xa5 := na3.ext; have pa6 := na3.pos; have za7 := na3.size; clear na3; replace hs := hs.ext xa5; replace X := X.ext xa5; replace hps := hps.ext xa5; replace rx := rx.ext xa5; clear xa5; (refine lw_box' [_, _, _, _] rfl rfl rfl ?_; intro ba8 wa9 na10); have ha11 := na10.blk; have xa12 := na10.ext; have pa13 := na10.pos; have za14 := na10.size; clear na10; replace ha4 := ha4.ext xa12; replace hs := hs.ext xa12; replace X := X.ext xa12; replace hps := hps.ext xa12; replace rx := rx.ext xa12; clear xa12; refine C1 Pa (cN (C1 Mv (C1 Pf (C1 (Pl ha11) (C1 Mv (C1 Pi (C1 Pf (C1 (Pw rx) ?_)))))))); refine cC rfl (HF.out _ _ _ _ (by assumption)) ?_; rintro _ wa16 ⟨⟨⟩, xa15⟩; have za17 := xa15.size; replace ha11 := ha11.ext xa15; replace ha4 := ha4.ext xa15; replace hs := hs.ext xa15; replace X := X.ext xa15; replace hps := hps.ext xa15; replace rx := rx.ext xa15; clear xa15; refine C1 Mv (C1 Px (C1 Px ?_)); (refine lw_alloc' [_, _, _] zOk rfl rfl ?_; intro ba18 wa19 na20); (refine lw_init' [_, _, _] tabOk rfl rfl rfl rfl rfl rfl na20 rfl ?_; clear na20; clear wa19; intro wa21 na20); have ha22 := na20.blk; dsimp only at ha22; have xa23 := na20.ext; have pa24 := na20.pos; have za25 := na20.size; clear na20; replace ha11 := ha11.ext xa23; replace ha4 := ha4.ext xa23; replace hs := hs.ext xa23; replace X := X.ext xa23; replace hps := hps.ext xa23; replace rx := rx.ext xa23; clear xa23
    refine C1 Pa (cT (cw_seq (cS (C1 Mv (C1 Pt (cT (cw_cond_f rfl (cw_skip (qw_then (cS (lw_loads_b' [_, _, _, _, _, _] tabOk rfl rfl rfl ha4 rfl rfl rfl ?_))))))))))); refine C1 Pf (C1 (Pl ha11) ?_); refine cC rfl (HP.out _ (by assumption)) ?_; rintro _ wa27 ⟨⟨⟩, xa26⟩; have za28 := xa26.size; replace ha22 := ha22.ext xa26; replace ha11 := ha11.ext xa26; replace ha4 := ha4.ext xa26; replace hs := hs.ext xa26; replace X := X.ext xa26; replace hps := hps.ext xa26; replace rx := rx.ext xa26; clear xa26; refine C1 Pa (cT (cw_seq (cw_seq ?_))); (refine cw_tdraw (fun wz => Ext wa27 wz) 13 (.pure 0 (.pure 1 (.pure 2 (.pure 3 (.pure 4 (.pure 5 (.pure 6 (.pure 7 (.pure 8 (.pure 9 (.pure 10 (.pure 11 (.pure 12 .tail))))))))))))) mixed (by kernel_rfl) (panicOk_then (panicOk_then panicOk_body)) ?_; intro wa29 xa30 _); have qsa31 : (fun wz => Ext wa27 wz) wa29 := xa30; simp only at qsa31; have d_ha22 := ha22; have d_ha11 := ha11; have d_ha4 := ha4; have d_hs := hs; have d_hps := hps; have d_rx := rx; have za32 := xa30.size; replace ha22 := ha22.ext xa30; replace ha11 := ha11.ext xa30; replace ha4 := ha4.ext xa30; replace hs := hs.ext xa30; replace X := X.ext xa30; replace hps := hps.ext xa30; replace rx := rx.ext xa30; clear xa30; refine ⟨qsa31, ?_⟩; refine Tq rfl Mv (Tq rfl V3 (Tq rfl Mv ?_)); refine tw_off rfl rfl rfl rfl (gd_ft (by decide)) rfl ?_; refine tw_off rfl rfl rfl rfl (gd_ft (by decide)) rfl ?_; refine tw_off rfl rfl rfl rfl (gd_ft (by decide)) rfl ?_; refine tw_off rfl rfl rfl rfl (gd_ft (by decide)) rfl ?_
    refine tw_off rfl rfl rfl rfl (gd_ft (by decide)) rfl ?_; refine tw_off rfl rfl rfl rfl (gd_ft (by decide)) rfl ?_; refine tw_off rfl rfl rfl rfl (gd_ft (by decide)) rfl ?_; refine tw_off rfl rfl rfl rfl (gd_ft (by decide)) rfl ?_; refine tw_off rfl rfl rfl rfl (gd_ft (by decide)) rfl ?_; refine tw_off rfl rfl rfl rfl (gd_ft (by decide)) rfl ?_; clear qsa31 d_ha22 d_ha11 d_ha4 d_hs d_hps d_rx; refine tw_tail rfl (Oyd (C1 Qyd (cT (cw_cond_t rfl (cS (C1 Pa (cT (cw_ret (qw_then_ret (qw_ret1 rfl rfl ?_)))))))))); rotate_left 1
   exact ⟨rfl, X⟩
  | some j =>
   rw [hq] at HP; have hj := procI_lt hq; dsimp only [Option.bind] at HP ⊢; rw [List.getElem?_eq_getElem hj]; dsimp only; obtain ⟨kb, ko, rfl, kS, hget⟩ := hps.get (by intro e; rw [e] at hj; simp at hj); obtain ⟨qa, qc, ba, bc, r0, hvs, -⟩ := hget j g.procs[j] (List.getElem?_eq_getElem hj); clear hget hq
   generalize g.procs[j] = y at *
   by_cases hm : l.length = y.params.length
   · rw [if_neg (by omega)]
     obtain ⟨zb, zo, rfl, zS, hgv⟩ := hvs.get (by intro e; rw [e] at hm; simp only [List.length_nil] at hm; omega); have r1 := hgv i (y.params[i]'(by omega)) (List.getElem?_eq_getElem (by omega)); rw [List.getElem?_eq_getElem (by omega)]; dsimp only; clear hgv hvs
     generalize y.params[i]'(by omega) = q at *
     obtain ⟨qn, qk, ql⟩ := q; replace r1 : Row w ⟨zb, zo + i * 3, none⟩ [str qn, .int .u8 qk, .int .i64 ql] := r1; dsimp only; refine calls_in Tryz.func49 Tryz.ntmps49 rfl rfl ?_
     focus
      refine cS ?_; (refine lw_box' [_, _, _, _, _, _] rfl rfl rfl ?_; intro bb1 wb2 nb3); have hb4 := nb3.blk; have xb5 := nb3.ext; have pb6 := nb3.pos; have zb7 := nb3.size; clear nb3; replace hs := hs.ext xb5; replace X := X.ext xb5; replace rx := rx.ext xb5; replace hps := hps.ext xb5; replace r0 := r0.ext xb5; replace r1 := r1.ext xb5; clear xb5; (refine lw_box' [_, _, _, _] rfl rfl rfl ?_; intro bb8 wb9 nb10); have hb11 := nb10.blk; have xb12 := nb10.ext; have pb13 := nb10.pos; have zb14 := nb10.size; clear nb10; replace hb4 := hb4.ext xb12; replace hs := hs.ext xb12; replace X := X.ext xb12; replace rx := rx.ext xb12; replace hps := hps.ext xb12; replace r0 := r0.ext xb12; replace r1 := r1.ext xb12; clear xb12; refine C1 Pa (cN (C1 Mv (C1 Pf (C1 (Pl hb11) (C1 Mv (C1 Pi (C1 Pf (C1 (Pw rx) ?_)))))))); refine cC rfl (HF.out _ _ _ _ (by assumption)) ?_; rintro _ wb16 ⟨⟨⟩, xb15⟩; have zb17 := xb15.size; replace hb11 := hb11.ext xb15; replace hb4 := hb4.ext xb15; replace hs := hs.ext xb15; replace X := X.ext xb15; replace rx := rx.ext xb15; replace hps := hps.ext xb15; replace r0 := r0.ext xb15; replace r1 := r1.ext xb15; clear xb15; refine C1 Mv (C1 Px (C1 Px ?_)); (refine lw_alloc' [_, _, _] zOk rfl rfl ?_; intro bb18 wb19 nb20); (refine lw_init' [_, _, _] tabOk rfl rfl rfl rfl rfl rfl nb20 rfl ?_; clear nb20; clear wb19; intro wb21 nb20); have hb22 := nb20.blk; dsimp only at hb22; have xb23 := nb20.ext; have pb24 := nb20.pos; have zb25 := nb20.size; clear nb20; replace hb11 := hb11.ext xb23
      replace hb4 := hb4.ext xb23; replace hs := hs.ext xb23; replace X := X.ext xb23; replace rx := rx.ext xb23; replace hps := hps.ext xb23; replace r0 := r0.ext xb23; replace r1 := r1.ext xb23; clear xb23; refine C1 Pa (cT (cw_seq (cS (C1 Mv (C1 Pt (cT (cw_cond_f rfl (cw_skip (qw_then (cS (lw_loads_b' [_, _, _, _, _, _] tabOk rfl rfl rfl hb4 rfl rfl rfl ?_))))))))))); refine C1 Pf (C1 (Pl hb11) ?_); refine cC rfl (HP.out _ (by assumption)) ?_; rintro _ wb27 ⟨⟨⟩, xb26⟩; have zb28 := xb26.size; replace hb22 := hb22.ext xb26; replace hb11 := hb11.ext xb26; replace hb4 := hb4.ext xb26; replace hs := hs.ext xb26; replace X := X.ext xb26; replace rx := rx.ext xb26; replace hps := hps.ext xb26; replace r0 := r0.ext xb26; replace r1 := r1.ext xb26; clear xb26; refine C1 Pa (cT (cw_seq (cw_seq ?_))); (refine cw_tdraw (fun wz => Ext wb27 wz) 13 (.pure 0 (.pure 1 (.pure 2 (.pure 3 (.pure 4 (.pure 5 (.pure 6 (.pure 7 (.pure 8 (.pure 9 (.pure 10 (.pure 11 (.pure 12 .tail))))))))))))) mixed (by kernel_rfl) (panicOk_then (panicOk_then panicOk_body)) ?_; intro wb29 xb30 _); have qsb31 : (fun wz => Ext wb27 wz) wb29 := xb30; simp only at qsb31; have d_hb22 := hb22; have d_hb11 := hb11; have d_hb4 := hb4; have d_hs := hs; have d_rx := rx; have d_hps := hps; have d_r0 := r0; have d_r1 := r1; have zb32 := xb30.size; replace hb22 := hb22.ext xb30; replace hb11 := hb11.ext xb30; replace hb4 := hb4.ext xb30; replace hs := hs.ext xb30; replace X := X.ext xb30; replace rx := rx.ext xb30; replace hps := hps.ext xb30
      replace r0 := r0.ext xb30; replace r1 := r1.ext xb30; clear xb30; refine ⟨qsb31, ?_⟩; refine Tq rfl Mv (Tq rfl V3 (Tq rfl Mv ?_)); refine tw_on rfl rfl rfl rfl (gd_ff (by omega)) (pur_fieldAddr tabOk rfl rfl rfl) rfl ?_; refine tw_on rfl rfl rfl rfl (gd_ff (by omega)) (pur_load tabOk rfl rfl rfl (fun wz hz => Blk.cell (Blk.ext d_hb11 hz) rfl)) rfl ?_; refine tw_on rfl rfl rfl rfl (gd_ff (by omega)) (pur_len_slice tabOk rfl rfl) rfl ?_; refine tw_on rfl rfl rfl rfl (gd_ff (by omega)) (pur_fieldAddr tabOk rfl rfl rfl) rfl ?_; refine tw_on rfl rfl rfl rfl (gd_ff (by omega)) (pur_load tabOk rfl rfl rfl (fun wz hz => Blk.cell (Blk.ext d_hb4 hz) rfl)) rfl ?_; refine tw_on rfl rfl rfl rfl (gd_ff (by omega)) (pur_move rfl) rfl ?_; refine tw_on rfl rfl rfl rfl (gd_ff (by omega)) (pur_indexAddr tabOk rfl rfl rfl rfl (by omega) (by omega)) rfl ?_; refine tw_on rfl rfl rfl rfl (gd_ff (by omega)) (pur_fieldAddr tabOk rfl rfl rfl) rfl ?_; refine tw_on rfl rfl rfl rfl (gd_ff (by omega)) (pur_load tabOk rfl rfl rfl (fun wz hz => Row.at (Row.ext d_r0 hz) rfl)) rfl ?_; refine tw_on rfl rfl rfl rfl (gd_ff (by omega)) (pur_len_slice tabOk rfl rfl) rfl ?_; clear qsb31 d_hb22 d_hb11 d_hb4 d_hs d_rx d_hps d_r0 d_r1; refine tw_tail rfl (Gno (C1 V2 (C1 Qno (cT (Wno (cw_skip (qw_then (cw_seq (cS (C1 Pf (C1 (Pl hb4) ?_))))))))))); refine C1 Mv (C1 Pi (C1 Pf (C1 (Pw r0) (C1 Mv (C1 Pi (C1 (Pws r1) ?_)))))); (refine lw_alloc' [_, _, _] zOk rfl rfl ?_; intro bb33 wb34 nb35); (refine lw_init' [_, _, _] tabOk rfl rfl rfl rfl rfl rfl nb35 rfl ?_; clear nb35; clear wb34; intro wb36 nb35)
      have hb37 := nb35.blk; have xb38 := nb35.ext; have pb39 := nb35.pos; have zb40 := nb35.size; clear nb35; replace hb22 := hb22.ext xb38; replace hb11 := hb11.ext xb38; replace hb4 := hb4.ext xb38; replace hs := hs.ext xb38; replace X := X.ext xb38; replace rx := rx.ext xb38; replace hps := hps.ext xb38; replace r0 := r0.ext xb38; replace r1 := r1.ext xb38; clear xb38; refine cN (C1 Pf (C1 (Pl hb22) (C1 Pf (C1 (Pl hb37) (C1 V2 (C1 Mv ?_)))))); refine lw_dec rfl rfl rfl (fun cb41 => ?_) (fun cb41 => ?_); refine Oya (Oya (Oya (Oya (Oya (C1 Qya (cT (cw_cond_t rfl (cS (C1 Pa (cT (cw_ret ?_))))))))))); refine qw_then_ret (qw_ret1 rfl rfl ?_); rotate_left 1; refine Gna (C1 Pf (Gna (C1 (Pl hb22) (Gna (C1 Pf (Gna (C1 (Pl hb37) (Gna (C1 V2 (C1 Qna (cT ?_))))))))))); refine cw_decn rfl (fun cb42 => ?_) (fun cb42 => ?_); refine cS (C1 Pa (cT (cw_ret (qw_then_ret (qw_ret1 rfl rfl ?_))))); rotate_left 1; refine cw_skip (qw_then (cS (C1 Pa (cT (cw_ret (qw_ret1 rfl rfl ?_)))))); rotate_left 1
     all_goals exact ⟨by simp [*], X⟩
   · rw [if_pos (by omega)]
     clear hvs; refine calls_in Tryz.func49 Tryz.ntmps49 rfl rfl ?_
     focus
      refine cS ?_; (refine lw_box' [_, _, _, _, _, _] rfl rfl rfl ?_; intro bc1 wc2 nc3); have hc4 := nc3.blk; have xc5 := nc3.ext; have pc6 := nc3.pos; have zc7 := nc3.size; clear nc3; replace hs := hs.ext xc5; replace X := X.ext xc5; replace rx := rx.ext xc5; replace hps := hps.ext xc5; replace r0 := r0.ext xc5; clear xc5; (refine lw_box' [_, _, _, _] rfl rfl rfl ?_; intro bc8 wc9 nc10); have hc11 := nc10.blk; have xc12 := nc10.ext; have pc13 := nc10.pos; have zc14 := nc10.size; clear nc10; replace hc4 := hc4.ext xc12; replace hs := hs.ext xc12; replace X := X.ext xc12; replace rx := rx.ext xc12; replace hps := hps.ext xc12; replace r0 := r0.ext xc12; clear xc12; refine C1 Pa (cN (C1 Mv (C1 Pf (C1 (Pl hc11) (C1 Mv (C1 Pi (C1 Pf (C1 (Pw rx) ?_)))))))); refine cC rfl (HF.out _ _ _ _ (by assumption)) ?_; rintro _ wc16 ⟨⟨⟩, xc15⟩; have zc17 := xc15.size; replace hc11 := hc11.ext xc15; replace hc4 := hc4.ext xc15; replace hs := hs.ext xc15; replace X := X.ext xc15; replace rx := rx.ext xc15; replace hps := hps.ext xc15; replace r0 := r0.ext xc15; clear xc15; refine C1 Mv (C1 Px (C1 Px ?_)); (refine lw_alloc' [_, _, _] zOk rfl rfl ?_; intro bc18 wc19 nc20); (refine lw_init' [_, _, _] tabOk rfl rfl rfl rfl rfl rfl nc20 rfl ?_; clear nc20; clear wc19; intro wc21 nc20); have hc22 := nc20.blk; dsimp only at hc22; have xc23 := nc20.ext; have pc24 := nc20.pos; have zc25 := nc20.size; clear nc20; replace hc11 := hc11.ext xc23; replace hc4 := hc4.ext xc23; replace hs := hs.ext xc23; replace X := X.ext xc23
      replace rx := rx.ext xc23; replace hps := hps.ext xc23; replace r0 := r0.ext xc23; clear xc23; refine C1 Pa (cT (cw_seq (cS (C1 Mv (C1 Pt (cT (cw_cond_f rfl (cw_skip (qw_then (cS (lw_loads_b' [_, _, _, _, _, _] tabOk rfl rfl rfl hc4 rfl rfl rfl ?_))))))))))); refine C1 Pf (C1 (Pl hc11) ?_); refine cC rfl (HP.out _ (by assumption)) ?_; rintro _ wc27 ⟨⟨⟩, xc26⟩; have zc28 := xc26.size; replace hc22 := hc22.ext xc26; replace hc11 := hc11.ext xc26; replace hc4 := hc4.ext xc26; replace hs := hs.ext xc26; replace X := X.ext xc26; replace rx := rx.ext xc26; replace hps := hps.ext xc26; replace r0 := r0.ext xc26; clear xc26; refine C1 Pa (cT (cw_seq (cw_seq ?_))); (refine cw_tdraw (fun wz => Ext wc27 wz) 13 (.pure 0 (.pure 1 (.pure 2 (.pure 3 (.pure 4 (.pure 5 (.pure 6 (.pure 7 (.pure 8 (.pure 9 (.pure 10 (.pure 11 (.pure 12 .tail))))))))))))) mixed (by kernel_rfl) (panicOk_then (panicOk_then panicOk_body)) ?_; intro wc29 xc30 _); have qsc31 : (fun wz => Ext wc27 wz) wc29 := xc30; simp only at qsc31; have d_hc22 := hc22; have d_hc11 := hc11; have d_hc4 := hc4; have d_hs := hs; have d_rx := rx; have d_hps := hps; have d_r0 := r0; have zc32 := xc30.size; replace hc22 := hc22.ext xc30; replace hc11 := hc11.ext xc30; replace hc4 := hc4.ext xc30; replace hs := hs.ext xc30; replace X := X.ext xc30; replace rx := rx.ext xc30; replace hps := hps.ext xc30; replace r0 := r0.ext xc30; clear xc30; refine ⟨qsc31, ?_⟩; refine Tq rfl Mv (Tq rfl V3 (Tq rfl Mv ?_)); refine tw_on rfl rfl rfl rfl (gd_ff (by omega)) (pur_fieldAddr tabOk rfl rfl rfl) rfl ?_
      refine tw_on rfl rfl rfl rfl (gd_ff (by omega)) (pur_load tabOk rfl rfl rfl (fun wz hz => Blk.cell (Blk.ext d_hc11 hz) rfl)) rfl ?_; refine tw_on rfl rfl rfl rfl (gd_ff (by omega)) (pur_len_slice tabOk rfl rfl) rfl ?_; refine tw_on rfl rfl rfl rfl (gd_ff (by omega)) (pur_fieldAddr tabOk rfl rfl rfl) rfl ?_; refine tw_on rfl rfl rfl rfl (gd_ff (by omega)) (pur_load tabOk rfl rfl rfl (fun wz hz => Blk.cell (Blk.ext d_hc4 hz) rfl)) rfl ?_; refine tw_on rfl rfl rfl rfl (gd_ff (by omega)) (pur_move rfl) rfl ?_; refine tw_on rfl rfl rfl rfl (gd_ff (by omega)) (pur_indexAddr tabOk rfl rfl rfl rfl (by omega) (by omega)) rfl ?_; refine tw_on rfl rfl rfl rfl (gd_ff (by omega)) (pur_fieldAddr tabOk rfl rfl rfl) rfl ?_; refine tw_on rfl rfl rfl rfl (gd_ff (by omega)) (pur_load tabOk rfl rfl rfl (fun wz hz => Row.at (Row.ext d_r0 hz) rfl)) rfl ?_; refine tw_on rfl rfl rfl rfl (gd_ff (by omega)) (pur_len_slice tabOk rfl rfl) rfl ?_; clear qsc31 d_hc22 d_hc11 d_hc4 d_hs d_rx d_hps d_r0; refine tw_tail rfl (Gno (C1 V2 (C1 Qno (cT (Wyo (cS (C1 Pa (cT (cw_ret (qw_then_ret (qw_ret1 rfl rfl ?_))))))))))); rotate_left 1
     all_goals exact ⟨rfl, X⟩
end Bk
namespace Bk
open Go Go.RowKit Go.Proofs
attribute [local irreducible] Go.Calls
structure FS (c fb m : Nat) (w : World) (v : Value) : Prop where
 cell : Blk w fb [v]
 own : OwnQ (anyShape 4) w (fun _ => False) c 59 v (List.replicate m ())
 ne : v.ownBlock ≠ some fb
 le : c ≤ w.heap.size
structure Eff (fb : Nat) (w : World) (v : Value) (w' : World) (v' : Value) : Prop where
 fr : Fr (fun k => k = fb ∨ v.ownBlock = some k) w w'
 new : ∀ g, v'.ownBlock = some g → v.ownBlock = some g ∨ w.heap.size ≤ g
theorem Eff.of_ext {fb : Nat} {w w' : World} {v : Value} (x : Ext w w') : Eff fb w v w' v := ⟨⟨x.os, x.tape, x.output, x.size, fun _ hl _ => x.block hl⟩, fun _ h => Or.inl h⟩
theorem Eff.trans {fb : Nat} {w w1 w2 : World} {v v1 v2 : Value} (h : Eff fb w v w1 v1) (k : Eff fb w1 v1 w2 v2) : Eff fb w v w2 v2 := by
 have hs := h.fr.size; refine ⟨⟨k.fr.os.trans h.fr.os, k.fr.tape.trans h.fr.tape, k.fr.output.trans h.fr.output, Nat.le_trans hs k.fr.size, fun i hi hn => ?_⟩, fun g hg => ?_⟩
 · refine (k.fr.block i (by omega) (fun e => ?_)).trans (h.fr.block i hi hn)
   rcases e with e | e
   · exact hn (Or.inl e)
   · rcases h.new i e with e | e
     · exact hn (Or.inr e)
     · omega
 · rcases k.new g hg with h1 | h1
   · exact h.new g h1
   · exact Or.inr (by omega)
def Kp (fb : Nat) (w : World) (v : Value) (b : Nat) : Prop := b < w.heap.size ∧ b ≠ fb ∧ v.ownBlock ≠ some b
theorem Kp.eff {fb : Nat} {w w' : World} {v v' : Value} {b : Nat} (h : Kp fb w v b) (k : Eff fb w v w' v') : Kp fb w' v' b := by
 have := k.fr.size; refine ⟨by have := h.1; omega, h.2.1, fun e => ?_⟩
 rcases k.new b e with e | e
 · exact h.2.2 e
 · have := h.1; omega
theorem Kp.grow {fb : Nat} {w w' : World} {v : Value} {b : Nat} (h : Kp fb w v b) (hs : w.heap.size ≤ w'.heap.size) : Kp fb w' v b := ⟨Nat.lt_of_lt_of_le h.1 hs, h.2⟩
theorem Kp.not {fb : Nat} {w : World} {v : Value} {b : Nat} (h : Kp fb w v b) : ¬ (b = fb ∨ v.ownBlock = some b) := fun e => e.elim h.2.1 h.2.2
theorem FS.ext {c fb m : Nat} {w w' : World} {v : Value} (h : FS c fb m w v) (x : Ext w w') : FS c fb m w' v := ⟨h.cell.ext x, h.own.ext x, h.ne, Nat.le_trans h.le x.size⟩
theorem FS.fr {c fb m : Nat} {S : Nat → Prop} {w w' : World} {v : Value} (h : FS c fb m w v) (x : Fr S w w') (hs : ∀ k, S k → k ≠ fb ∧ v.ownBlock ≠ some k) : FS c fb m w' v := ⟨h.cell.fr x (fun e => (hs _ e).1 rfl), h.own.fr x (fun k hk => ⟨id, (hs k hk).2⟩), h.ne, Nat.le_trans h.le x.size⟩
def RepR (c fb m : Nat) (w : World) (v : Value) : Ending → World → Prop := fun e w' => e = .returned (.tuple #[]) ∧ ∃ v', FS c fb m w' v' ∧ Fr (fun k => k = fb ∨ v.ownBlock = some k) w w' ∧ ∀ g, v'.ownBlock = some g → v.ownBlock = some g ∨ w.heap.size ≤ g
theorem RepR.ret {c fb m : Nat} {w : World} {v : Value} {e : Ending} {w' : World} (h : RepR c fb m w v e w') : ∃ v, e = .returned v := ⟨_, h.1⟩
set_option maxRecDepth 100000 in
set_option maxHeartbeats 4000000 in
theorem report_c (c fb m : Nat) (v : Value) (p err : Int) (s : List UInt8) (S : Nat → Prop) (pa : Option Addr) (pn pc : Nat) (w : World) (hm : m ≤ 1000000000) (hn : pn ≤ 1000000) (hp : PathAt S w pa pn pc) (hf : FS c fb m w v) :
 Calls Tryz.prog 22 #[.int .i64 p, .slice pa pn pc, str s, .int .i64 err, .pointer (some ⟨fb, 0, none⟩)] w (RepR c fb (m + b01 err) w v) := by
 obtain ⟨hb, ho, hne, hc⟩ := hf; have HC := Lib.hid (fun (w : World) (h : PathAt S w pa pn pc) => h.clone hn); have X := Ext.refl w
 by_cases he : err = 0
 · subst he
   have e0 : m + b01 0 = m := rfl; rw [e0]; refine calls_in Tryz.func22 Tryz.ntmps22 rfl rfl ?_
   focus
    refine cS (C1 Mv (C1 V2 (cT (Wnd (cw_skip (qw_end0 rfl ?_)))))); rotate_left 1
   exact ⟨rfl, v, ⟨hb, ho, hne, by have := X.size; omega⟩, (Eff.of_ext X).fr, fun _ h => Or.inl h⟩
 · have e1 : b01 err = 1 := if_neg he
   rw [e1]
   have hob : ∀ g, v.ownBlock = some g → g < w.heap.size ∧ g ≠ fb := fun g hg => ⟨ho.lt hg, fun e => hne (e ▸ hg)⟩
   have hbl := hb.lt
   have hnext : List.replicate m () ++ [()] = List.replicate (m + 1) () := by rw [List.replicate_succ']
   have hlen : (List.replicate m ()).length ≤ 1000000000 := by simp; omega
   have X2 := Fr.refl (fun k => k = fb ∨ v.ownBlock = some k) w; refine calls_in Tryz.func22 Tryz.ntmps22 rfl rfl ?_
   focus
    refine cS (C1 Mv (C1 V2 (cT (Wya ?_)))); (refine cw_tdraw (fun wz => Ext w wz) 8 (.pure 0 (.pure 1 (.pure 2 (.pure 4 (.pure 5 (.fork 3 (.pure 6 (.fork 7 .tail .none)) .none)))))) mixed (by kernel_rfl) panicOk_body ?_; intro wa1 xa2 _); have qsa3 : (fun wz => Ext w wz) wa1 := xa2; simp only at qsa3; have d_hp := hp; have d_hb := hb; have d_ho := ho; have za4 := xa2.size; replace hp := hp.ext xa2; replace hb := hb.ext xa2; replace ho := ho.ext xa2; replace X := X.ext xa2; replace X2 := X2.ext xa2; clear xa2; refine ⟨qsa3, ?_⟩; refine Tq rfl (Db d_hb) (Tq rfl Mv (Tq rfl Mv (Tq rfl Mv (Tq rfl Mv ?_)))); refine tw_does rfl (does_call (by kernel_rfl) rfl (HC.out _ (by assumption)) (fun _ _ h => h.ret)) rfl ?_ (fun _ h => h) tw_none; rintro _ wa9 ⟨aa6, ⟨ca7, ⟨⟨⟩, xa8⟩⟩⟩; have za10 := xa8.size; replace qsa3 := qsa3.ext xa8; replace hp := hp.ext xa8; replace hb := hb.ext xa8; replace ho := ho.ext xa8; replace X := X.ext xa8; replace X2 := X2.ext xa8; clear xa8; refine ⟨qsa3, ?_⟩; refine Tq rfl (pur_build' [_, _, _, _] tabOk zOk rfl rfl rfl rfl) ?_; (refine tw_does rfl (does_slice' [_, _, _, _] tabOk zOk rfl rfl rfl rfl rfl rfl rfl rfl rfl) rfl ?_ (fun _ h => h) tw_none; rintro _ wa13 ⟨ba12, rfl, na14, ta15⟩); clear ta15; have ha16 := na14.blk; have xa17 := na14.ext; have pa18 := na14.pos; have za19 := na14.size; clear na14; replace qsa3 := qsa3.ext xa17; replace hp := hp.ext xa17; replace hb := hb.ext xa17; replace ho := ho.ext xa17; replace X := X.ext xa17; replace X2 := X2.ext xa17
    clear xa17; refine ⟨qsa3, ?_⟩; clear d_hp d_hb d_ho qsa3; refine tw_tail rfl ?_; refine lw_does (does_appendQ (R := fun _ => False) (sh := anyShape 4) (z := ()) tabOk zOk rfl rfl rfl rfl (by kernel_rfl) rfl rfl rfl (by assumption) (fun _ h => by exact h) (Blk.row (by assumption)) ⟨rfl, rfl⟩ (by omega) (by omega)) rfl ?_ (fun _ h => h); rintro _ wa26 ⟨ga20, ⟨capa21, ⟨rfl, ⟨ha22, ⟨ha23, ⟨ha24, fa25⟩⟩⟩⟩⟩⟩; have za27 := fa25.size; replace ha16 := Blk.fr ha16 fa25 (fun h => by have := hob _ h; omega); clear hp; replace hb := Blk.fr hb fa25 (fun h => by have := hob _ h; omega); clear ho; replace X2 := Fr.fr X2 fa25 (fun k hk => Or.inl (Or.inr hk)); clear fa25; (refine lw_store' [_] [_] tabOk rfl rfl rfl rfl rfl rfl hb rfl rfl ?_; intro wa28 na29); have ha32 := na29.blk; have fa30 := na29.fr; have za31 := na29.size; clear na29 hb; replace ha22 := OwnQ.fr ha22 fa30 (fun k hk => ⟨id, fun e => by (obtain rfl := Option.some.inj (show some ga20 = some k from e); rcases ha23 with h | h; have := hob _ h; omega; omega)⟩); replace ha16 := ha16.fr fa30 (by omega); replace X2 := X2.fr fa30 (by omega); clear fa30; refine lw_nil (qw_end0 rfl ?_); rotate_left 1
   have hsz := X2.size; refine ⟨rfl, _, ⟨by assumption, by rw [← hnext]; assumption, fun e => ?_, by omega⟩, X2, fun g hg => ?_⟩
   · obtain rfl := Option.some.inj (show some ga20 = some fb from e)
     rcases ha23 with h | h
     · exact hne h
     · omega
   obtain rfl := Option.some.inj (show some ga20 = some g from hg)
   rcases ha23 with h | h
   · exact Or.inl h
   · exact Or.inr (by omega)
def RepOk (c fb : Nat) (rf : FuncId) (ca : List Value) (E : World → Value → Prop) : Prop :=
 (∀ w v w' v', E w v → Eff fb w v w' v' → E w' v') ∧
 ∀ (m : Nat) (v : Value) (err : Int) (s : List UInt8) (S : Nat → Prop) (pa : Option Addr) (pn pc : Nat) (w : World), m ≤ 1000000000 → pn ≤ 1000000 → PathAt S w pa pn pc → FS c fb m w v → E w v →
  Calls Tryz.prog rf ([.slice pa pn pc, str s, .int .i64 err] ++ ca).toArray w (RepR c fb (m + b01 err) w v)
def clo1 (fb : Nat) : Value := .func (.func 22) #[] #[.pointer (some ⟨fb, 0, none⟩)]
set_option maxRecDepth 100000 in
set_option maxHeartbeats 4000000 in
theorem report2_c (c fb bR bI : Nat) (i : Int) : RepOk c fb 27 [.pointer (some ⟨bR, 0, none⟩), .pointer (some ⟨bI, 0, none⟩)] (fun w v => Blk w bR [clo1 fb] ∧ Blk w bI [.int .i64 i] ∧ Kp fb w v bR ∧ Kp fb w v bI) := by
 refine ⟨fun w v w' v' ⟨h1, h2, h3, h4⟩ k => ⟨h1.fr k.fr h3.not, h2.fr k.fr h4.not, h3.eff k, h4.eff k⟩, ?_⟩; rintro m v err s S pa pn pc w hm hn hp hf ⟨h1, h2, -, -⟩; have HR := Lib.hid (report_c c fb m v i err s S pa pn pc w hm hn hp hf)
 unfold clo1 at h1
 clear hp hf
 show Calls Tryz.prog 27 #[.slice pa pn pc, str s, .int .i64 err, .pointer (some ⟨bR, 0, none⟩), .pointer (some ⟨bI, 0, none⟩)] w _
 have X2 := Fr.refl (fun k => k = fb ∨ v.ownBlock = some k) w; refine calls_in Tryz.func27 Tryz.ntmps27 rfl rfl ?_
 focus
  refine cw_region (C1 (Pl h1) (C1 (Pl h2) (C1 Mv (C1 Mv (C1 Mv ?_))))); refine lw_does (does_callv (fi := []) (ca := [.pointer (some ⟨fb, 0, none⟩)]) (by kernel_rfl) rfl rfl HR.out (fun _ _ h => h.ret)) rfl ?_ (fun _ h => h); rintro _ w5 ⟨⟨⟩, ⟨v'1, ⟨h2, ⟨f3, h4⟩⟩⟩⟩; have z6 := f3.size; clear h1; replace X2 := Fr.fr X2 f3 (fun k hk => Or.inl hk); clear f3; refine lw_nil (qw_end0 rfl ?_); rotate_left 1
 exact ⟨rfl, _, by assumption, X2, by assumption⟩
set_option maxRecDepth 100000 in
set_option maxHeartbeats 4000000 in
theorem report3_c (c fb bR bP : Nat) (g : PG) (va : Option Addr) (vc : Nat) (pa' : Option Addr) (pc' : Nat) (ma : Option Addr) (mc : Nat) : RepOk c fb 28 [.pointer (some ⟨bR, 0, none⟩), .pointer (some ⟨bP, 0, none⟩)] (fun w v => Blk w bR [clo1 fb] ∧ Blk w bP (g.cells va vc pa' pc' ma mc) ∧ Kp fb w v bR ∧ Kp fb w v bP) := by
 refine ⟨fun w v w' v' ⟨h1, h2, h3, h4⟩ k => ⟨h1.fr k.fr h3.not, h2.fr k.fr h4.not, h3.eff k, h4.eff k⟩, ?_⟩; rintro m v err s S pa pn pc w hm hn hp hf ⟨h1, h2, -, -⟩; have HR := Lib.hid (report_c c fb m v g.procs.length err s S pa pn pc w hm hn hp hf)
 unfold clo1 at h1
 clear hp hf
 show Calls Tryz.prog 28 #[.slice pa pn pc, str s, .int .i64 err, .pointer (some ⟨bR, 0, none⟩), .pointer (some ⟨bP, 0, none⟩)] w _
 have X2 := Fr.refl (fun k => k = fb ∨ v.ownBlock = some k) w; refine calls_in Tryz.func28 Tryz.ntmps28 rfl rfl ?_
 focus
  refine cw_region (C1 (Pl h1) (C1 Pf (C1 (Pl h2) (C1 Pz (C1 Mv (C1 Mv (C1 Mv ?_))))))); refine lw_does (does_callv (fi := []) (ca := [.pointer (some ⟨fb, 0, none⟩)]) (by kernel_rfl) rfl rfl HR.out (fun _ _ h => h.ret)) rfl ?_ (fun _ h => h); rintro _ w5 ⟨⟨⟩, ⟨v'1, ⟨h2, ⟨f3, h4⟩⟩⟩⟩; have z6 := f3.size; clear h1; replace X2 := Fr.fr X2 f3 (fun k hk => Or.inl hk); clear f3; refine lw_nil (qw_end0 rfl ?_); rotate_left 1
 exact ⟨rfl, _, by assumption, X2, by assumption⟩
end Bk
namespace Bk
open Go Go.RowKit Go.Proofs
attribute [local irreducible] Go.Calls
theorem b01_le (e : Int) : b01 e ≤ 1 := by unfold b01; split <;> omega
theorem argsF_le (ps : List PD) (v : List VD) (s : List UInt8) (m : Nat) : ∀ (l : List Nd) (i : Nat), argsF ps v s m i l ≤ l.length
 | [], _ => by simp [argsF]
 | t :: r, i => by
  have := b01_le (argE ps v s m i t.name); have := argsF_le ps v s m r (i + 1)
  simp only [argsF, List.length_cons]; omega
mutual
theorem flt_le (ps : List PD) : ∀ (t : Nd) (v : List VD), t.flt ps v ≤ t.size
 | .mk k n s l, v => by
  have h1 := b01_le (faultE ps v k s l.length); have h2 := argsF_le ps v s l.length l 0; have h3 := length_rowA l; have h4 := rowFlt_le ps l v k s 0; simp only [Nd.flt, Nd.size]
  split <;> omega
theorem rowFlt_le (ps : List PD) : ∀ (l : List Nd) (v : List VD) (k : Int) (s : List UInt8) (i : Nat), rowFlt ps v k s i l ≤ rowSize l
 | [], _, _, _, _ => by simp [rowFlt]
 | t :: r, v, k, s, i => by
  have := flt_le ps t (innerV k s i v); have := rowFlt_le ps r v k s (i + 1)
  simp only [rowFlt, rowSize]; omega
end
theorem rowFlt_take (ps : List PD) (v : List VD) (k : Int) (s : List UInt8) : ∀ (l : List Nd) (j i : Nat) (h : j < l.length), rowFlt ps v k s i (l.take (j + 1)) = rowFlt ps v k s i (l.take j) + (l[j]).flt ps (innerV k s (i + j) v)
 | t :: r, 0, i, _ => by simp [rowFlt]
 | t :: r, j + 1, i, h => by
  simp only [List.take_succ_cons, rowFlt, List.getElem_cons_succ]; rw [rowFlt_take ps v k s r j (i + 1) (by simpa using h)]; rw [show i + 1 + j = i + (j + 1) by omega]
  omega
theorem argsF_take (ps : List PD) (v : List VD) (s : List UInt8) (m : Nat) : ∀ (l : List Nd) (j i : Nat) (h : j < l.length), argsF ps v s m i (l.take (j + 1)) = argsF ps v s m i (l.take j) + b01 (argE ps v s m (i + j) (l[j]).name)
 | t :: r, 0, i, _ => by simp [argsF]
 | t :: r, j + 1, i, h => by
  simp only [List.take_succ_cons, argsF, List.getElem_cons_succ]; rw [argsF_take ps v s m r j (i + 1) (by simpa using h)]; rw [show i + 1 + j = i + (j + 1) by omega]
  omega
theorem rowSize_takeJ : ∀ (l : List Nd) {j : Nat} (h : j < l.length), rowSize (l.take j) + l[j].size ≤ rowSize l
 | t :: r, 0, _ => by simp [rowSize]
 | t :: r, j + 1, h => by
  have := rowSize_takeJ r (j := j) (by simpa using h)
  simp only [List.take_succ_cons, rowSize, List.getElem_cons_succ]; omega
set_option maxRecDepth 100000 in
set_option maxHeartbeats 8000000 in
theorem svisit_c (c fb : Nat) (hcf : c ≤ fb) (rf : FuncId) (ca : List Value) (hbd : bodied Tryz.prog rf = true) (E : World → Value → Prop) (hR : RepOk c fb rf ca E) (g : PG) (hg : g.procs.length ≤ 1000000) (va : Option Addr) (vc : Nat) (pa : Option Addr) (pc : Nat) (ma : Option Addr) (mc : Nat) (N : Nat) :
 ∀ (t : Nd) (vs : List VD) (Sv Sp : Nat → Prop) (ta : Option Addr) (tc : Nat) (la : Option Addr) (lc : Nat) (qa : Option Addr) (qn qc : Nat) (w : World) (v : Value) (m : Nat), t.size < N → vs.length + t.size ≤ 1000000 → qn + t.size ≤ 1000000 → m + t.size ≤ 1000000000 → t.sits (· < c) w ta → PDs (· < c) w g.procs pa → VDs Sv w vs la → vs.length ≤ lc → PathAt Sp w qa qn qc → (∀ b, Sv b → Kp fb w v b) → (∀ b, Sp b → Kp fb w v b) → FS c fb m w v → E w v →
  Calls Tryz.prog 26 #[.agg (g.cells va vc pa pc ma mc).toArray, t.val ta tc, .slice qa qn qc, .slice la vs.length lc, .func (.func rf) #[] ca.toArray] w (RepR c fb (m + t.flt g.procs vs) w v) := by
 induction N with
 | zero => intro t vs Sv Sp ta tc la lc qa qn qc w v m h; omega
 | succ N ih =>
  rintro ⟨k, n, s, l⟩ vs Sv Sp ta tc la lc qa qn qc w v m hN hv1 hq1 hm1 hs hps hvs hlc hqp hSv hSp hF hE
  have hz : (Nd.mk k n s l).size = 1 + rowSize l := by rw [Nd.size]
  have hlen := length_rowA l; rw [hz] at hN hv1 hq1 hm1; have IH := Lib.hid ih; have HR1 := Lib.hid hR.1; have HR2 := Lib.hid hR.2
  have hSv2 : ∀ b, Sv b → ¬ (b = fb ∨ v.ownBlock = some b) := fun b hb => (hSv b hb).not
  have hSp2 : ∀ b, Sp b → ¬ (b = fb ∨ v.ownBlock = some b) := fun b hb => (hSp b hb).not
  have hob : ∀ g, v.ownBlock = some g → c ≤ g ∧ g < w.heap.size := fun g hg => ⟨hF.own.ge hg, hF.own.lt hg⟩
  have hfb := hF.cell.lt; have HSv := Lib.hid hSv; have HSp := Lib.hid hSp; have HFt := Lib.hid (fault_c g hg k n s l ta tc vs (by omega) (· < c) Sv va vc pa pc ma mc la lc); have HRep := Lib.hid (fun (w' : World) (x : Ext w w') (p : PathAt Sp w' qa qn qc) => HR2.out m v (faultE g.procs vs k s l.length) s Sp qa qn qc w' (by omega) (by omega) p (hF.ext x) (HR1.out _ _ _ _ hE (Eff.of_ext x))); have HE0 := Lib.hid hE; clear ih hR hSv hSp hE hF; have X := Ext.refl w; have X2 := Fr.refl (fun k => k = fb ∨ v.ownBlock = some k) w; replace hs := kids_sits hs
  show Calls Tryz.prog 26 #[.agg (g.cells va vc pa pc ma mc).toArray, .agg #[.int .u8 k, .int .i64 n, str s, .slice ta l.length tc], .slice qa qn qc, .slice la vs.length lc, .func (.func rf) #[] ca.toArray] w _
  refine calls_in Tryz.func26 Tryz.ntmps26 rfl rfl ?_
  focus
   refine cS ?_; (refine lw_box' [_, _, _, _, _, _] rfl rfl rfl ?_; intro b1 w2 n3); have h4 := n3.blk; have x5 := n3.ext; have p6 := n3.pos; have z7 := n3.size; clear n3; replace hps := hps.ext x5; replace hvs := hvs.ext x5; replace hqp := hqp.ext x5; replace X := X.ext x5; replace X2 := X2.ext x5; replace hs := Bk.rowSits.ext hs x5; clear x5; (refine lw_box' [_, _, _, _] rfl rfl rfl ?_; intro b8 w9 n10); have h11 := n10.blk; have x12 := n10.ext; have p13 := n10.pos; have z14 := n10.size; clear n10; replace h4 := h4.ext x12; replace hps := hps.ext x12; replace hvs := hvs.ext x12; replace hqp := hqp.ext x12; replace X := X.ext x12; replace X2 := X2.ext x12; replace hs := Bk.rowSits.ext hs x12; clear x12; refine cT (cw_seq ?_); (refine cw_tdraw (fun wz => Ext w9 wz) 8 (.pure 0 (.pure 1 (.pure 2 (.pure 3 (.pure 4 (.pure 5 (.pure 6 (.fork 7 .tail .none)))))))) mixed (by kernel_rfl) (panicOk_then panicOk_body) ?_; intro w15 x16 _); have qs17 : (fun wz => Ext w9 wz) w15 := x16; simp only at qs17; have d_h11 := h11; have d_h4 := h4; have d_hps := hps; have d_hvs := hvs; have d_hqp := hqp; have d_hs := hs; have z18 := x16.size; replace h11 := h11.ext x16; replace h4 := h4.ext x16; replace hps := hps.ext x16; replace hvs := hvs.ext x16; replace hqp := hqp.ext x16; replace X := X.ext x16; replace X2 := X2.ext x16; replace hs := Bk.rowSits.ext hs x16; clear x16; refine ⟨qs17, ?_⟩; refine Tq rfl Mv (Tq rfl Mv (Tq rfl Pf (Tq rfl (Db d_h11) (Tq rfl (pur_loads_blk' [_, _, _, _, _, _] tabOk rfl rfl rfl (fun wz hz => (Blk.ext d_h4 hz)) rfl rfl) (Tq rfl (pur_loads_blk' [_, _, _, _] tabOk rfl rfl rfl (fun wz hz => (Blk.ext d_h11 hz)) rfl rfl) (Tq rfl Mv ?_))))))
   refine tw_does rfl (does_call (by kernel_rfl) rfl (HFt.out _ (by assumption) (by assumption)) (fun _ _ h => ⟨_, h.1⟩)) rfl ?_ (fun _ h => h) tw_none; rintro _ w21 ⟨⟨⟩, x20⟩; have z22 := x20.size; replace qs17 := qs17.ext x20; replace h11 := h11.ext x20; replace h4 := h4.ext x20; replace hps := hps.ext x20; replace hvs := hvs.ext x20; replace hqp := hqp.ext x20; replace X := X.ext x20; replace X2 := X2.ext x20; replace hs := Bk.rowSits.ext hs x20; clear x20; refine ⟨qs17, ?_⟩; clear d_h11 d_h4 d_hps d_hvs d_hqp d_hs qs17; refine tw_tail rfl ?_; refine lw_does (does_callv (fi := []) (ca := ca) hbd rfl rfl (HRep.out _ (by assumption) (by assumption)) (fun _ _ h => h.ret)) rfl ?_ (fun _ h => h); rintro _ w27 ⟨⟨⟩, ⟨v'23, ⟨h24, ⟨f25, h26⟩⟩⟩⟩; have z28 := f25.size; replace h11 := Blk.fr h11 f25 (fun h => by (rcases h with h | h; omega; have := hob _ h; omega)); replace h4 := Blk.fr h4 f25 (fun h => by (rcases h with h | h; omega; have := hob _ h; omega)); replace hps := PDs.fr hps f25 (fun b hb h => by (rcases h with h | h; omega; have := hob _ h; omega)); replace hvs := VDs.fr hvs f25 (hSv2); replace hqp := PathAt.fr hqp f25 (hSp2); replace X2 := Fr.fr X2 f25 (fun k hk => Or.inl hk); replace hs := Bk.rowSits.fr hs f25 (fun b hb h => by (rcases h with h | h; omega; have := hob _ h; omega)); clear f25; refine cT (cw_seq ?_); rotate_left 1
  have e1 : Eff fb w v w27 v'23 := ⟨X2, fun g hg => (h26 g hg).imp id fun h => by omega⟩; have k1 : Kp fb w27 v'23 b1 := ⟨h4.lt, by omega, fun e => by rcases h26 _ e with h | h; (have := hob _ h; omega); omega⟩; have k8 : Kp fb w27 v'23 b8 := ⟨h11.lt, by omega, fun e => by rcases h26 _ e with h | h; (have := hob _ h; omega); omega⟩; have EE := Lib.hid (HR1.out); have HE1 := Lib.hid (HR1.out _ _ _ _ HE0.out e1)
  have hflt : (Nd.mk k n s l).flt g.procs vs = b01 (faultE g.procs vs k s l.length) + (if k = 50 ∨ k = 51 then argsF g.procs vs s l.length 0 l else rowFlt g.procs vs k s 0 l) := by rw [Nd.flt]
  rw [hflt]; have hfl := b01_le (faultE g.procs vs k s l.length); clear hflt
  generalize b01 (faultE g.procs vs k s l.length) = m0 at *
  clear HRep HFt hSv2 hSp2 hob h26 X2
  generalize v'23 = v1 at *
  refine cw_meet (ι := Unit) (fun _ => [(2, .slice qa qn qc), (3, .slice la vs.length lc), (4, .func (.func rf) #[] ca.toArray), (5, .pointer (some ⟨b1, 0, none⟩)), (6, .pointer (some ⟨b8, 0, none⟩)), (30, .bool (decide (k = 50 ∨ k = 51)))]) (fun _ w' => w' = w27) ?_ ?_
  · focus
     refine cw_region (C1 Pg (C1 (Pl h11) (C1 V1 (C1 Mv ?_)))); refine lw_dec rfl rfl rfl (fun ca1 => ?_) (fun ca1 => ?_); refine Oya (Oya (Oya (C1 Qya (lw_nil ?_)))); rotate_left 1; refine Gna (C1 Pg (Gna (C1 (Pl h11) (Gna (C1 V1 (C1 Qna (lw_nil ?_))))))); rotate_left 1
    all_goals exact qw_meet () (sub_cons rfl (sub_cons rfl (sub_cons rfl (sub_cons rfl (sub_cons rfl (sub_cons' rfl (congrArg Value.bool (by first | exact (decide_eq_true (by omega)).symm | exact decide_eq_decide.2 (by omega))) sub_nil)))))) rfl
  rintro - w0 h; subst h
  by_cases hk : k = 50 ∨ k = 51
  · rw [if_pos hk]
    clear IH
    focus
     refine Wya (cw_seq (cS (C1 Pf (C1 (Pl h11) (C1 Pz (C1 Mv (cT ?_))))))); rotate_left 1
    refine cw_block ?_; refine cw_loop (ι := Nat × Value) (fun x => [(2, .slice qa qn qc), (3, .slice la vs.length lc), (4, .func (.func rf) #[] ca.toArray), (5, .pointer (some ⟨b1, 0, none⟩)), (6, .pointer (some ⟨b8, 0, none⟩)), (32, .slice ta l.length tc), (33, .int .i64 l.length), (34, .int .i64 x.1)])
     (fun x w' => x.1 ≤ l.length ∧ FS c fb (m + m0 + argsF g.procs vs s l.length 0 (l.take x.1)) w' x.2 ∧ Eff fb w v w' x.2 ∧ Kp fb w' x.2 b1 ∧ Kp fb w' x.2 b8 ∧ Blk w' b8 [.int .u8 k, .int .i64 n, str s, .slice ta l.length tc] ∧ Blk w' b1 (g.cells va vc pa pc ma mc) ∧ PDs (· < c) w' g.procs pa ∧ VDs Sv w' vs la ∧ PathAt Sp w' qa qn qc ∧ rowSits (· < c) w' l ta)
     (fun x => l.length - x.1) (0, v1) (by (refine sub_cons rfl ?_; refine sub_cons rfl ?_; refine sub_cons rfl ?_; refine sub_cons rfl ?_; refine sub_cons rfl ?_; refine sub_cons rfl ?_; refine sub_cons rfl ?_; refine sub_cons rfl ?_; exact sub_nil)) ⟨Nat.zero_le _, h24, e1, k1, k8, h11, h4, hps, hvs, hqp, hs⟩ ?_
    clear h24 e1 k1 k8 h11 h4 hps hvs hqp hs HE1; rintro ⟨j, vj⟩ w3 ⟨hj, hF, e3, k1, k8, h11, h4, hps, hvs, hqp, hs⟩; simp only at hj hF e3 k1 k8 h11 h4 hps hvs hqp hs
    by_cases hlt : j < l.length
    · have hown : ∀ g, vj.ownBlock = some g → c ≤ g ∧ g < w3.heap.size ∧ g ≠ b1 ∧ g ≠ b8 := fun g hg => ⟨hF.own.ge hg, hF.own.lt hg, fun e => k1.2.2 (e ▸ hg), fun e => k8.2.2 (e ▸ hg)⟩
      have hSvj : ∀ b, Sv b → ¬ (b = fb ∨ vj.ownBlock = some b) := fun b hb => ((HSv.out b hb).eff e3).not
      have hSpj : ∀ b, Sp b → ¬ (b = fb ∨ vj.ownBlock = some b) := fun b hb => ((HSp.out b hb).eff e3).not
      have hSvl : ∀ b, Sv b → b < w3.heap.size := fun b hb => ((HSv.out b hb).eff e3).1
      have hSpl : ∀ b, Sp b → b < w3.heap.size := fun b hb => ((HSp.out b hb).eff e3).1
      have hn1 := k1.not; have hn8 := k8.not; have hb1 := k1.1; have hb8 := k8.1; have hfb3 := hF.cell.lt; have HEj := Lib.hid (EE.out _ _ _ _ HE0.out e3); have harg := argsF_le g.procs vs s l.length (l.take j) 0; rw [List.length_take] at harg; have hnx := argsF_take g.procs vs s l.length l j 0 hlt; rw [Nat.zero_add] at hnx; obtain ⟨kb, ko, rfl, kS, hkid⟩ := kidRows hs (by intro e; subst e; simp at hlt); obtain ⟨xa, xc, rx, -⟩ := hkid j l[j] (List.getElem?_eq_getElem hlt); have HArg := Lib.hid (sargument_c g hg k n s l (by omega) j hlt vs (by omega)); have HRepj := Lib.hid (fun (w' : World) (x : Ext w3 w') (S : Nat → Prop) (pa : Option Addr) (pn pc : Nat) (hp : pn ≤ 1000000) (p : PathAt S w' pa pn pc) => HR2.out (m + m0 + argsF g.procs vs s l.length 0 (l.take j)) vj (argE g.procs vs s l.length j l[j].name) l[j].name S pa pn pc w' (by omega) hp p (hF.ext x) (HR1.out _ _ _ _ HEj.out (Eff.of_ext x))); have E3 := Lib.hid e3; clear hkid hF e3
      have hAj : m + m0 + argsF g.procs vs s l.length 0 (l.take (j + 1)) = m + m0 + argsF g.procs vs s l.length 0 (l.take j) + b01 (argE g.procs vs s l.length j l[j].name) := by rw [hnx]; omega
      rw [← hAj] at HRepj; clear hnx hAj
      generalize l[j] = x at *
      generalize argE g.procs vs s l.length j x.name = ex at *
      have X3 := Ext.refl w3; have X4 := Fr.refl (fun k => k = fb ∨ vj.ownBlock = some k) w3
      focus
       refine cS (C1 V3 (cT (cw_seq (Wyo (cw_skip (qw_then (cw_seq (cw_block (cS (C1 Mv (C1 Pi ?_))))))))))); refine C1 (Pws rx) ?_; (refine lw_alloc' [_, _, _, _] zOk rfl rfl ?_; intro bc1 wc2 nc3); have hc5 := nc3.blk; have xc6 := nc3.ext; have pc7 := nc3.pos; have zc8 := nc3.size; clear nc3; replace h4 := h4.ext xc6; replace hps := hps.ext xc6; replace hvs := hvs.ext xc6; replace hqp := hqp.ext xc6; replace h11 := h11.ext xc6; replace hs := Bk.rowSits.ext hs xc6; replace rx := rx.ext xc6; replace X3 := X3.ext xc6; replace X4 := X4.ext xc6; clear xc6; refine C1 Pa ?_; (refine lw_store' [_, _, _, _] [_, _, _, _] tabOk rfl rfl rfl rfl rfl rfl hc5 rfl rfl ?_; intro wc9 nc10); have hc13 := nc10.blk; have fc11 := nc10.fr; have zc12 := nc10.size; clear nc10 hc5; replace h4 := h4.fr fc11 (by omega); replace hps := hps.fr fc11 (by omega); replace hvs := VDs.fr hvs fc11 (fun b hb e => by have := hSvl b hb; omega); replace hqp := PathAt.fr hqp fc11 (fun b hb e => by have := hSpl b hb; omega); replace h11 := h11.fr fc11 (by omega); replace hs := Bk.rowSits.fr hs fc11 (by omega); replace rx := Row.fr rx fc11 (by simp only; omega); replace X3 := X3.fr fc11 (by omega); replace X4 := X4.fr fc11 (by omega); clear fc11; refine cT ?_; (refine cw_tdraw (fun wz => Ext wc9 wz) 11 (.pure 0 (.pure 1 (.pure 2 (.pure 4 (.pure 5 (.pure 6 (.pure 7 (.pure 8 (.pure 9 (.fork 3 (.fork 10 .tail .none) .none)))))))))) mixed (by kernel_rfl) (panicOk_block (panicOk_then (panicOk_then (panicOk_block (panicOk_then (panicOk_then panicOk_body)))))) ?_; intro wc14 xc15 _)
       have qsc16 : (fun wz => Ext wc9 wz) wc14 := xc15; simp only at qsc16; have d_hc13 := hc13; have d_h4 := h4; have d_hps := hps; have d_hvs := hvs; have d_hqp := hqp; have d_h11 := h11; have d_hs := hs; have d_rx := rx; have zc17 := xc15.size; replace hc13 := hc13.ext xc15; replace h4 := h4.ext xc15; replace hps := hps.ext xc15; replace hvs := hvs.ext xc15; replace hqp := hqp.ext xc15; replace h11 := h11.ext xc15; replace hs := Bk.rowSits.ext hs xc15; replace rx := rx.ext xc15; replace X3 := X3.ext xc15; replace X4 := X4.ext xc15; clear xc15; refine ⟨qsc16, ?_⟩; refine Tq rfl Mv (Tq rfl Mv (Tq rfl Mv (Tq rfl Pf (Tq rfl (Db d_hc13) (Tq rfl (pur_loads_blk' [_, _, _, _, _, _] tabOk rfl rfl rfl (fun wz hz => (Blk.ext d_h4 hz)) rfl rfl) (Tq rfl (pur_loads_blk' [_, _, _, _] tabOk rfl rfl rfl (fun wz hz => (Blk.ext d_h11 hz)) rfl rfl) (Tq rfl Mv (Tq rfl Mv ?_)))))))); refine tw_does rfl (does_call (by kernel_rfl) rfl (child_c _ _ _ _ _ _ (by omega) (by assumption)) (fun _ _ h => h.ret)) rfl ?_ (fun _ h => h) tw_none; rintro _ wc23 ⟨gc19, ⟨cc20, ⟨⟨⟩, ⟨hc21, xc22⟩⟩⟩⟩; have zc24 := xc22.size; replace qsc16 := qsc16.ext xc22; replace hc13 := hc13.ext xc22; replace h4 := h4.ext xc22; replace hps := hps.ext xc22; replace hvs := hvs.ext xc22; replace hqp := hqp.ext xc22; replace h11 := h11.ext xc22; replace hs := Bk.rowSits.ext hs xc22; replace rx := rx.ext xc22; replace X3 := X3.ext xc22; replace X4 := X4.ext xc22; clear xc22; refine ⟨qsc16, ?_⟩; refine tw_does rfl (does_call (by kernel_rfl) rfl (HArg.out _ _ _ _ _ _ _ _ _ _ _ _ _ _ (by assumption) (by assumption) (by assumption)) (fun _ _ h => ⟨_, h.1⟩)) rfl ?_ (fun _ h => h) tw_none
       rintro _ wc27 ⟨⟨⟩, xc26⟩; have zc28 := xc26.size; replace hc21 := hc21.ext xc26; replace qsc16 := qsc16.ext xc26; replace hc13 := hc13.ext xc26; replace h4 := h4.ext xc26; replace hps := hps.ext xc26; replace hvs := hvs.ext xc26; replace hqp := hqp.ext xc26; replace h11 := h11.ext xc26; replace hs := Bk.rowSits.ext hs xc26; replace rx := rx.ext xc26; replace X3 := X3.ext xc26; replace X4 := X4.ext xc26; clear xc26; refine ⟨qsc16, ?_⟩; clear d_hc13 d_h4 d_hps d_hvs d_hqp d_h11 d_hs d_rx qsc16; refine tw_tail rfl ?_; refine lw_does (does_callv (fi := []) (ca := ca) hbd rfl rfl (HRepj.out _ (by assumption) _ _ _ _ (by omega) (by assumption)) (fun _ _ h => h.ret)) rfl ?_ (fun _ h => h); rintro _ wc33 ⟨⟨⟩, ⟨v'c29, ⟨hc30, ⟨fc31, hc32⟩⟩⟩⟩; have zc34 := fc31.size; replace hc21 := PathAt.fr hc21 fc31 (fun b hb h => by (rcases h with h | h; omega; have := hown _ h; omega)); replace hc13 := Blk.fr hc13 fc31 (fun h => by (rcases h with h | h; omega; have := hown _ h; omega)); replace h4 := Blk.fr h4 fc31 (hn1); replace hps := PDs.fr hps fc31 (fun b hb h => by (rcases h with h | h; omega; have := hown _ h; omega)); replace hvs := VDs.fr hvs fc31 (hSvj); replace hqp := PathAt.fr hqp fc31 (hSpj); replace h11 := Blk.fr h11 fc31 (hn8); replace hs := Bk.rowSits.fr hs fc31 (fun b hb h => by (rcases h with h | h; omega; have := hown _ h; omega)); clear rx; replace X4 := Fr.fr X4 fc31 (fun k hk => Or.inl hk); clear fc31; refine lw_nil (qw_block_norm (qw_then (cw_region (C1 V7 (C1 Mv (lw_nil ?_))))))
       rotate_left 1
      have e4 : Eff fb w3 vj wc33 v'c29 := ⟨X4, fun g hg => (hc32 g hg).imp id fun h => by omega⟩
      exact qw_round (j + 1, _) (by (refine sub_cons rfl ?_; refine sub_cons rfl ?_; refine sub_cons rfl ?_; refine sub_cons rfl ?_; refine sub_cons rfl ?_; refine sub_cons rfl ?_; refine sub_cons rfl ?_; refine sub_cons rfl ?_; exact sub_nil)) ⟨by simp only; omega, hc30, E3.out.trans e4, k1.eff e4, k8.eff e4, h11, h4, hps, hvs, hqp, hs⟩ (by simp only; omega)
    · obtain rfl : j = l.length := by omega
      rw [List.take_length] at hF
      focus
       refine cS (C1 V3 (cT (cw_seq (Wno (cw_exit (qw_then_exit (qw_then_exit (qw_block_exit (qw_then (cw_ret (qw_then_ret ?_))))))))))); refine qw_ret0 rfl ?_; rotate_left 1
      rw [← Nat.add_assoc]
      exact ⟨rfl, vj, hF, e3.fr, e3.new⟩
  · rw [if_neg hk]
    focus
     refine Wna (cw_skip (qw_then (cS (C1 Pf (C1 (Pl h11) (C1 Pz (C1 Mv (cT ?_)))))))); rotate_left 1
    refine cw_block ?_; refine cw_loop (ι := Nat × Value) (fun x => [(2, .slice qa qn qc), (3, .slice la vs.length lc), (4, .func (.func rf) #[] ca.toArray), (5, .pointer (some ⟨b1, 0, none⟩)), (6, .pointer (some ⟨b8, 0, none⟩)), (53, .slice ta l.length tc), (54, .int .i64 l.length), (55, .int .i64 x.1)])
     (fun x w' => x.1 ≤ l.length ∧ FS c fb (m + m0 + rowFlt g.procs vs k s 0 (l.take x.1)) w' x.2 ∧ Eff fb w v w' x.2 ∧ Kp fb w' x.2 b1 ∧ Kp fb w' x.2 b8 ∧ Blk w' b8 [.int .u8 k, .int .i64 n, str s, .slice ta l.length tc] ∧ Blk w' b1 (g.cells va vc pa pc ma mc) ∧ PDs (· < c) w' g.procs pa ∧ VDs Sv w' vs la ∧ PathAt Sp w' qa qn qc ∧ rowSits (· < c) w' l ta)
     (fun x => l.length - x.1) (0, v1) (by (refine sub_cons rfl ?_; refine sub_cons rfl ?_; refine sub_cons rfl ?_; refine sub_cons rfl ?_; refine sub_cons rfl ?_; refine sub_cons rfl ?_; refine sub_cons rfl ?_; refine sub_cons rfl ?_; exact sub_nil)) ⟨Nat.zero_le _, h24, e1, k1, k8, h11, h4, hps, hvs, hqp, hs⟩ ?_
    clear h24 e1 k1 k8 h11 h4 hps hvs hqp hs HE1; rintro ⟨j, vj⟩ w3 ⟨hj, hF, e3, k1, k8, h11, h4, hps, hvs, hqp, hs⟩; simp only at hj hF e3 k1 k8 h11 h4 hps hvs hqp hs
    by_cases hlt : j < l.length
    · have hown : ∀ g, vj.ownBlock = some g → c ≤ g ∧ g < w3.heap.size ∧ g ≠ b1 ∧ g ≠ b8 := fun g hg => ⟨hF.own.ge hg, hF.own.lt hg, fun e => k1.2.2 (e ▸ hg), fun e => k8.2.2 (e ▸ hg)⟩
      have hSvj : ∀ b, Sv b → ¬ (b = fb ∨ vj.ownBlock = some b) := fun b hb => ((HSv.out b hb).eff e3).not
      have hSpj : ∀ b, Sp b → ¬ (b = fb ∨ vj.ownBlock = some b) := fun b hb => ((HSp.out b hb).eff e3).not
      have hSvl : ∀ b, Sv b → b < w3.heap.size := fun b hb => ((HSv.out b hb).eff e3).1
      have hSpl : ∀ b, Sp b → b < w3.heap.size := fun b hb => ((HSp.out b hb).eff e3).1
      have hn1 := k1.not; have hn8 := k8.not; have hb1 := k1.1; have hb8 := k8.1; have hfb3 := hF.cell.lt; have hle3 := hF.le; have HEj := Lib.hid (EE.out _ _ _ _ HE0.out e3); have hrf := rowFlt_le g.procs (l.take j) vs k s 0; have hnx := rowFlt_take g.procs vs k s l j 0 hlt; rw [Nat.zero_add] at hnx; have hrs := rowSize_takeJ l hlt; obtain ⟨kb, ko, rfl, kS, hkid⟩ := kidRows hs (by intro e; subst e; simp at hlt); obtain ⟨xa, xc, rx, sx⟩ := hkid j l[j] (List.getElem?_eq_getElem hlt)
      have hinl : (innerV k s j vs).length ≤ vs.length + 1 := by unfold innerV; split <;> (try split) <;> simp
      have HV := Lib.hid (fun (w' : World) (x : Ext w3 w') (Sv' Sp' : Nat → Prop) (la' : Option Addr) (lc' : Nat) (qa' : Option Addr) (qc' : Nat) (hs : (l[j]).sits (· < c) w' xa) (hps : PDs (· < c) w' g.procs pa) (hvs : VDs Sv' w' (innerV k s j vs) la') (hlc : (innerV k s j vs).length ≤ lc') (hqp : PathAt Sp' w' qa' (qn + 1) qc') (hsv : ∀ b, Sv' b → Sv b ∨ (w3.heap.size ≤ b ∧ b < w'.heap.size)) (hsp : ∀ b, Sp' b → w3.heap.size ≤ b ∧ b < w'.heap.size) =>
       IH.out l[j] (innerV k s j vs) Sv' Sp' xa xc la' lc' qa' (qn + 1) qc' w' vj (m + m0 + rowFlt g.procs vs k s 0 (l.take j)) (by omega) (by omega) (by omega) (by omega) hs hps hvs hlc hqp
        (fun b hb => by
         rcases hsv b hb with h | h
         · exact ((HSv.out b h).eff e3).eff (Eff.of_ext x)
         · exact ⟨h.2, by omega, fun e => by have := hown _ e; omega⟩)
        (fun b hb => by have h := hsp b hb; exact ⟨h.2, by omega, fun e => by have := hown _ e; omega⟩) (hF.ext x) (HR1.out _ _ _ _ HEj.out (Eff.of_ext x)))
      have hAj : m + m0 + rowFlt g.procs vs k s 0 (l.take (j + 1)) = m + m0 + rowFlt g.procs vs k s 0 (l.take j) + (l[j]).flt g.procs (innerV k s j vs) := by rw [hnx]; omega
      rw [← hAj] at HV; have HIn := Lib.hid (inner_c k n s l (some ⟨kb, ko, none⟩) tc j vs (by omega) Sv la lc); have E3 := Lib.hid e3; clear hkid hF e3 hnx hAj
      generalize innerV k s j vs = vs' at *
      generalize l[j] = x at *
      have X3 := Ext.refl w3; have X4 := Fr.refl (fun k => k = fb ∨ vj.ownBlock = some k) w3
      focus
       refine cS (C1 V3 (cT (cw_seq (Wyo (cw_skip (qw_then (cw_seq (cw_block (cS (C1 Mv (C1 Pi ?_))))))))))); refine C1 (Pws rx) ?_; (refine lw_alloc' [_, _, _, _] zOk rfl rfl ?_; intro bf1 wf2 nf3); have hf5 := nf3.blk; have xf6 := nf3.ext; have pf7 := nf3.pos; have zf8 := nf3.size; clear nf3; replace h4 := h4.ext xf6; replace hps := hps.ext xf6; replace hvs := hvs.ext xf6; replace hqp := hqp.ext xf6; replace h11 := h11.ext xf6; replace hs := Bk.rowSits.ext hs xf6; replace rx := rx.ext xf6; replace sx := Nd.sits.ext sx xf6; replace X3 := X3.ext xf6; replace X4 := X4.ext xf6; clear xf6; refine C1 Pa ?_; (refine lw_store' [_, _, _, _] [_, _, _, _] tabOk rfl rfl rfl rfl rfl rfl hf5 rfl rfl ?_; intro wf9 nf10); have hf13 := nf10.blk; have ff11 := nf10.fr; have zf12 := nf10.size; clear nf10 hf5; replace h4 := h4.fr ff11 (by omega); replace hps := hps.fr ff11 (by omega); replace hvs := VDs.fr hvs ff11 (fun b hb e => by have := hSvl b hb; omega); replace hqp := PathAt.fr hqp ff11 (fun b hb e => by have := hSpl b hb; omega); replace h11 := h11.fr ff11 (by omega); replace hs := Bk.rowSits.fr hs ff11 (by omega); replace rx := Row.fr rx ff11 (by simp only; omega); replace sx := Nd.sits.fr sx ff11 (by omega); replace X3 := X3.fr ff11 (by omega); replace X4 := X4.fr ff11 (by omega); clear ff11; refine cT ?_; (refine cw_tdraw (fun wz => Ext wf9 wz) 10 (.pure 0 (.pure 1 (.pure 2 (.pure 3 (.pure 5 (.pure 6 (.pure 7 (.pure 9 (.fork 4 (.fork 8 .tail .none) .none))))))))) mixed (by kernel_rfl) (panicOk_block (panicOk_then (panicOk_then (panicOk_block panicOk_body)))) ?_; intro wf14 xf15 _)
       have qsf16 : (fun wz => Ext wf9 wz) wf14 := xf15; simp only at qsf16; have d_hf13 := hf13; have d_h4 := h4; have d_hps := hps; have d_hvs := hvs; have d_hqp := hqp; have d_h11 := h11; have d_hs := hs; have d_rx := rx; have d_sx := sx; have zf17 := xf15.size; replace hf13 := hf13.ext xf15; replace h4 := h4.ext xf15; replace hps := hps.ext xf15; replace hvs := hvs.ext xf15; replace hqp := hqp.ext xf15; replace h11 := h11.ext xf15; replace hs := Bk.rowSits.ext hs xf15; replace rx := rx.ext xf15; replace sx := Nd.sits.ext sx xf15; replace X3 := X3.ext xf15; replace X4 := X4.ext xf15; clear xf15; refine ⟨qsf16, ?_⟩; refine Tq rfl (pur_loads_blk' [_, _, _, _, _, _] tabOk rfl rfl rfl (fun wz hz => (Blk.ext d_h4 hz)) rfl rfl) (Tq rfl (pur_loads_blk' [_, _, _, _] tabOk rfl rfl rfl (fun wz hz => (Blk.ext d_hf13 hz)) rfl rfl) (Tq rfl Mv (Tq rfl Mv (Tq rfl (pur_loads_blk' [_, _, _, _] tabOk rfl rfl rfl (fun wz hz => (Blk.ext d_h11 hz)) rfl rfl) (Tq rfl Mv (Tq rfl Mv (Tq rfl Mv ?_))))))); refine tw_does rfl (does_call (by kernel_rfl) rfl (child_c _ _ _ _ _ _ (by omega) (by assumption)) (fun _ _ h => h.ret)) rfl ?_ (fun _ h => h) tw_none; rintro _ wf23 ⟨gf19, ⟨cf20, ⟨⟨⟩, ⟨hf21, xf22⟩⟩⟩⟩; have zf24 := xf22.size; replace qsf16 := qsf16.ext xf22; replace hf13 := hf13.ext xf22; replace h4 := h4.ext xf22; replace hps := hps.ext xf22; replace hvs := hvs.ext xf22; replace hqp := hqp.ext xf22; replace h11 := h11.ext xf22; replace hs := Bk.rowSits.ext hs xf22; replace rx := rx.ext xf22; replace sx := Nd.sits.ext sx xf22
       replace X3 := X3.ext xf22; replace X4 := X4.ext xf22; clear xf22; refine ⟨qsf16, ?_⟩; refine tw_does rfl (does_call (by kernel_rfl) rfl (HIn.out _ hlc (by assumption)) (fun _ _ h => h.ret)) rfl ?_ (fun _ h => h) tw_none; rintro _ wf31 ⟨af26, ⟨cf27, ⟨⟨⟩, ⟨hf28, ⟨hf29, xf30⟩⟩⟩⟩⟩; have zf32 := xf30.size; replace hf21 := hf21.ext xf30; replace qsf16 := qsf16.ext xf30; replace hf13 := hf13.ext xf30; replace h4 := h4.ext xf30; replace hps := hps.ext xf30; replace hvs := hvs.ext xf30; replace hqp := hqp.ext xf30; replace h11 := h11.ext xf30; replace hs := Bk.rowSits.ext hs xf30; replace rx := rx.ext xf30; replace sx := Nd.sits.ext sx xf30; replace X3 := X3.ext xf30; replace X4 := X4.ext xf30; clear xf30; refine ⟨qsf16, ?_⟩; clear d_hf13 d_h4 d_hps d_hvs d_hqp d_h11 d_hs d_rx d_sx qsf16; refine tw_tail rfl ?_; refine cC rfl (HV.out _ (by assumption) _ _ _ _ _ _ (by assumption) (by assumption) (by assumption) (by omega) (by assumption) (by (intro b hb; rcases hb with hb | hb; exact Or.inl hb; exact Or.inr ⟨by omega, by omega⟩)) (by (intro b hb; exact ⟨by omega, by omega⟩))) ?_; rintro _ wf37 ⟨⟨⟩, ⟨v'f33, ⟨hf34, ⟨ff35, hf36⟩⟩⟩⟩; have zf38 := ff35.size; clear hf29; replace hf21 := PathAt.fr hf21 ff35 (fun b hb h => by (rcases h with h | h; omega; have := hown _ h; omega)); replace hf13 := Blk.fr hf13 ff35 (fun h => by (rcases h with h | h; omega; have := hown _ h; omega)); replace h4 := Blk.fr h4 ff35 (hn1); replace hps := PDs.fr hps ff35 (fun b hb h => by (rcases h with h | h; omega; have := hown _ h; omega))
       replace hvs := VDs.fr hvs ff35 (hSvj); replace hqp := PathAt.fr hqp ff35 (hSpj); replace h11 := Blk.fr h11 ff35 (hn8); replace hs := Bk.rowSits.fr hs ff35 (fun b hb h => by (rcases h with h | h; omega; have := hown _ h; omega)); clear rx; replace sx := Nd.sits.fr sx ff35 (fun b hb h => by (rcases h with h | h; omega; have := hown _ h; omega)); replace X4 := Fr.fr X4 ff35 (fun k hk => Or.inl hk); clear ff35; refine lw_nil (qw_block_norm (qw_then (cw_region (C1 V7 (C1 Mv (lw_nil ?_)))))); rotate_left 1
      have e4 : Eff fb w3 vj wf37 v'f33 := ⟨X4, fun g hg => (hf36 g hg).imp id fun h => by omega⟩
      exact qw_round (j + 1, _) (by (refine sub_cons rfl ?_; refine sub_cons rfl ?_; refine sub_cons rfl ?_; refine sub_cons rfl ?_; refine sub_cons rfl ?_; refine sub_cons rfl ?_; refine sub_cons rfl ?_; refine sub_cons rfl ?_; exact sub_nil)) ⟨by simp only; omega, hf34, E3.out.trans e4, k1.eff e4, k8.eff e4, h11, h4, hps, hvs, hqp, hs⟩ (by simp only; omega)
    · obtain rfl : j = l.length := by omega
      rw [List.take_length] at hF
      focus
       refine cS (C1 V3 (cT (cw_seq (Wno (cw_exit (qw_then_exit (qw_then_exit (qw_block_exit (qw_end0 rfl ?_))))))))); rotate_left 1
      rw [← Nat.add_assoc]
      exact ⟨rfl, vj, hF, e3.fr, e3.new⟩
end Bk
