/- Texts that the proofs of FuntextBack, FuntextLevels need. No condition. (Part 4 of 7.) -/
import Derived.Test.YtmmjpjmkkhflkaaGreatDoorPFka3
set_option linter.unusedSimpArgs false
set_option linter.unusedVariables false
namespace Bk
open Go
abbrev Pr (α : Type) := List Tok → Int → PS → α × PS
section
variable (ts us : List Tok) (n m : Int) (c : Nat) (Q : PS → PS → Prop)
structure DD (σ τ : PS) : Prop where
 a : c ≤ σ.at_
 b : c ≤ τ.at_
 w : σ.at_ ≤ ts.length
 v : τ.at_ ≤ us.length
 e : us.length = c → τ.err = 0 ∨ (τ.err = 4 ∧ τ.off = m)
structure EE (σ τ : PS) : Prop extends DD ts us m c σ τ where
 x : us.length = c → τ.err ≠ 0
structure Syn (σ τ : PS) : Prop where
 kind : (peekP ts σ).kind = (peekP us τ).kind
 text : (peekP ts σ).text = (peekP us τ).text
 err : σ.err = 0 ↔ τ.err = 0
 next : In ts σ → In us τ → Q (nextP σ) (nextP τ)
 unexp : Q (unexpP ts n σ) (unexpP us m τ)
 full : ∀ e : Int, In ts σ → In us τ → Q (failP σ (peekP ts σ).pos e) (failP τ (peekP us τ).pos e)
 range : In ts σ → In us τ → Q (failP (nextP σ) (peekP ts σ).pos 2) (failP (nextP τ) (peekP us τ).pos 2)
 lim : ∀ x σ' τ', Q σ' τ' → Q (limitP x (peekP ts σ).pos σ') (limitP x (peekP us τ).pos τ')
structure Sim : Prop where
 wf : ∀ σ τ, Q σ τ → σ.at_ ≤ ts.length ∧ τ.at_ ≤ us.length
 syn : ∀ σ τ, Q σ τ → DD ts us m c σ τ ∨ Syn ts us n m Q σ τ
def RD {α : Type} (a b : α × PS) : Prop := (a.1 = b.1 ∧ Q a.2 b.2) ∨ DD ts us m c a.2 b.2
def RE {α : Type} (a b : α × PS) : Prop := (a.1 = b.1 ∧ Q a.2 b.2) ∨ EE ts us m c a.2 b.2
end
structure Good {α : Type} (p : Pr α) : Prop where
 le : ∀ ts n σ, σ.at_ ≤ ts.length → Le ts σ (p ts n σ).2
 fin : ∀ ts n σ, σ.at_ = ts.length → (p ts n σ).2 = σ ∨ (p ts n σ).2 = unexpP ts n σ
 sim : ∀ ts us n m c Q, Sim ts us n m c Q → ∀ σ τ, Q σ τ → RD ts us m c Q (p ts n σ) (p us m τ)
def FE {α : Type} (p : Pr α) : Prop := ∀ ts n σ, σ.at_ = ts.length → (p ts n σ).2 = unexpP ts n σ
def GE {α : Type} (p : Pr α) : Prop := ∀ ts us n m c Q, Sim ts us n m c Q → ∀ σ τ, Q σ τ → RE ts us m c Q (p ts n σ) (p us m τ)
def bindP {α β : Type} (p : Pr α) (f : α → Pr β) : Pr β := fun ts n σ => f (p ts n σ).1 ts n (p ts n σ).2
def retP {α : Type} (x : α) : Pr α := fun _ _ σ => (x, σ)
def rdP {α : Type} (c : Int → List UInt8 → Bool) (y z : Int → List UInt8 → Pr α) : Pr α := fun ts n σ => if c (peekP ts σ).kind (peekP ts σ).text then y (peekP ts σ).kind (peekP ts σ).text ts n (nextP σ) else z (peekP ts σ).kind (peekP ts σ).text ts n σ
def unP {α : Type} (x : α) : Pr α := fun ts n σ => (x, unexpP ts n σ)
theorem Good.congr {α : Type} {p q : Pr α} (h : ∀ ts n σ, p ts n σ = q ts n σ) (g : Good q) : Good p := by
 have : p = q := by funext ts n σ; exact h ts n σ
 rw [this]; exact g
theorem GE.congr {α : Type} {p q : Pr α} (h : ∀ ts n σ, p ts n σ = q ts n σ) (g : GE q) : GE p := by
 have : p = q := by funext ts n σ; exact h ts n σ
 rw [this]; exact g
theorem FE.congr {α : Type} {p q : Pr α} (h : ∀ ts n σ, p ts n σ = q ts n σ) (g : FE q) : FE p := by
 have : p = q := by funext ts n σ; exact h ts n σ
 rw [this]; exact g
theorem unexp_end {ts : List Tok} {n : Int} {σ : PS} (h : σ.at_ = ts.length) : unexpP ts n σ = failP σ n 4 := by unfold unexpP; rw [if_neg (by omega)]
theorem fail_at (σ : PS) (o e : Int) : (failP σ o e).at_ = σ.at_ := by unfold failP; split <;> rfl
theorem unexp_at {ts : List Tok} {n : Int} (σ : PS) : (unexpP ts n σ).at_ = σ.at_ := by unfold unexpP; split <;> exact fail_at _ _ _
section
variable {ts us : List Tok} {n m : Int} {c : Nat} {Q : PS → PS → Prop}
theorem DD.un {σ τ : PS} (d : DD ts us m c σ τ) (h : us.length = c) : (unexpP us m τ).err = 4 ∧ (unexpP us m τ).off = m := by
 have hv := d.v; have hb := d.b; rw [unexp_end (by omega)]
 unfold failP
 rcases d.e h with e | e
 · rw [if_pos e]; exact ⟨rfl, rfl⟩
 · rw [if_neg (by rw [e.1]; decide)]; exact e
theorem DD.of {σ τ σ' τ' : PS} (d : DD ts us m c σ τ) (l1 : Le ts σ σ') (l2 : Le us τ τ') (f : τ.at_ = us.length → τ' = τ ∨ τ' = unexpP us m τ) : DD ts us m c σ' τ' := by
 refine ⟨Nat.le_trans d.a l1.le, Nat.le_trans d.b l2.le, l1.wf, l2.wf, fun h => ?_⟩; have hv := d.v; have hb := d.b
 rcases f (by omega) with e | e
 · rw [e]; exact d.e h
 · rw [e]; exact Or.inr (d.un h)
theorem DD.step {α β : Type} {p : Pr α} {q : Pr β} (g : Good p) (k : Good q) {σ τ : PS} (d : DD ts us m c σ τ) : DD ts us m c (p ts n σ).2 (q us m τ).2 := by
 have l1 := g.le ts n σ d.w; have l2 := k.le us m τ d.v; refine ⟨Nat.le_trans d.a l1.le, Nat.le_trans d.b l2.le, l1.wf, l2.wf, fun h => ?_⟩; have hv := d.v; have hb := d.b
 rcases k.fin us m τ (by omega) with e | e
 · rw [e]; exact d.e h
 · rw [e]; exact Or.inr (d.un h)
theorem DD.stepE {α β : Type} {p : Pr α} {q : Pr β} (g : Good p) (k : Good q) (f : FE q) {σ τ : PS} (d : DD ts us m c σ τ) : EE ts us m c (p ts n σ).2 (q us m τ).2 := by
 refine ⟨d.step g k, fun h => ?_⟩; have hv := d.v; have hb := d.b
 rw [f us m τ (by omega)]; exact unexp_err
theorem EE.le {σ τ σ' τ' : PS} (d : EE ts us m c σ τ) (l1 : Le ts σ σ') (l2 : Le us τ τ') : EE ts us m c σ' τ' := by
 refine ⟨⟨Nat.le_trans d.a l1.le, Nat.le_trans d.b l2.le, l1.wf, l2.wf, fun h => ?_⟩, fun h => ?_⟩
 · rw [l2.err (d.x h)]; exact d.e h
 · rw [l2.err (d.x h)]; exact d.x h
theorem RE.rd {α : Type} {a b : α × PS} (h : RE ts us m c Q a b) : RD ts us m c Q a b := by
 rcases h with h | h
 · exact Or.inl h
 · exact Or.inr h.toDD
end
theorem Good.ret {α : Type} (x : α) : Good (retP x) := ⟨fun ts n σ h => Le.refl h, fun ts n σ h => Or.inl rfl, fun ts us n m c Q S σ τ q => Or.inl ⟨rfl, q⟩⟩
theorem GE.ret {α : Type} (x : α) : GE (retP x) := fun ts us n m c Q S σ τ q => Or.inl ⟨rfl, q⟩
theorem Good.bind {α β : Type} {p : Pr α} {f : α → Pr β} (g : Good p) (k : ∀ x, Good (f x)) : Good (bindP p f) where
 le := fun ts n σ h => (g.le ts n σ h).trans ((k _).le ts n _ (g.le ts n σ h).wf)
 fin := fun ts n σ h => by
  unfold bindP
  rcases g.fin ts n σ h with e | e
  · rw [e]; exact (k _).fin ts n σ h
  · rw [e]
    right
    exact ((k _).le ts n _ (by rw [unexp_at]; omega)).err unexp_err
 sim := fun ts us n m c Q S σ τ q => by
  unfold bindP
  rcases g.sim ts us n m c Q S σ τ q with ⟨e, q1⟩ | d
  · rw [e]; exact (k _).sim ts us n m c Q S _ _ q1
  · exact Or.inr (d.step (k _) (k _))
theorem GE.bind {α β : Type} {p : Pr α} {f : α → Pr β} (g : Good p) (k : ∀ x, Good (f x)) (l : ∀ x, GE (f x)) (e : ∀ x, FE (f x)) : GE (bindP p f) := fun ts us n m c Q S σ τ q => by
 unfold bindP
 rcases g.sim ts us n m c Q S σ τ q with ⟨e, q1⟩ | d
 · rw [e]; exact l _ ts us n m c Q S _ _ q1
 · exact Or.inr (d.stepE (k _) (k _) (e _))
theorem GE.bindL {α β : Type} {p : Pr α} {f : α → Pr β} (g : GE p) (k : ∀ x, Good (f x)) (l : ∀ x, GE (f x)) : GE (bindP p f) := fun ts us n m c Q S σ τ q => by
 unfold bindP
 rcases g ts us n m c Q S σ τ q with ⟨e, q1⟩ | d
 · rw [e]; exact l _ ts us n m c Q S _ _ q1
 · exact Or.inr (d.le ((k _).le _ _ _ d.w) ((k _).le _ _ _ d.v))
theorem FE.bindL {α β : Type} {p : Pr α} {f : α → Pr β} (g : FE p) (k : ∀ x, Good (f x)) : FE (bindP p f) := fun ts n σ h => by
 unfold bindP
 rw [g ts n σ h]
 exact ((k _).le ts n _ (by rw [unexp_at]; omega)).err unexp_err
theorem FE.bind {α β : Type} {p : Pr α} {f : α → Pr β} (g : Good p) (k : ∀ x, Good (f x)) (e : ∀ x, FE (f x)) : FE (bindP p f) := fun ts n σ h => by
 unfold bindP
 rcases g.fin ts n σ h with h' | h'
 · rw [h']; exact e _ ts n σ h
 · rw [h']; exact ((k _).le ts n _ (by rw [unexp_at]; omega)).err unexp_err
theorem rd_in {ts : List Tok} {σ : PS} {c : Int → List UInt8 → Bool} (hc : c 0 [] = false) (h : σ.at_ ≤ ts.length) (hh : c (peekP ts σ).kind (peekP ts σ).text = true) : In ts σ := by
 refine peek_in h ?_
 by_cases h1 : (peekP ts σ).text = []
 · right
   intro h2
   rw [h1, h2, hc] at hh; cases hh
 · exact Or.inl h1
theorem rd_end {ts : List Tok} {σ : PS} {c : Int → List UInt8 → Bool} (hc : c 0 [] = false) (h : σ.at_ = ts.length) : c (peekP ts σ).kind (peekP ts σ).text = false := by
 rw [peek_end h]; exact hc
theorem Good.rd {α : Type} {c : Int → List UInt8 → Bool} {y z : Int → List UInt8 → Pr α} (hc : c 0 [] = false) (hy : ∀ k t, Good (y k t)) (hz : ∀ k t, Good (z k t)) : Good (rdP c y z) where
 le := fun ts n σ h => by
  unfold rdP
  split
  · rename_i hh
    have l := next_le (rd_in hc h hh)
    exact l.trans ((hy _ _).le ts n _ l.wf)
  · exact (hz _ _).le ts n σ h
 fin := fun ts n σ h => by
  unfold rdP
  rw [if_neg (by rw [rd_end hc h]; decide)]
  exact (hz _ _).fin ts n σ h
 sim := fun ts us n m c' Q S σ τ q => by
  rcases S.syn σ τ q with d | s
  · right
    have gl : ∀ (ts : List Tok) (n : Int) (σ : PS), σ.at_ ≤ ts.length → Le ts σ (rdP c y z ts n σ).2 := fun ts n σ h => by
     unfold rdP
     split
     · rename_i hh
       have l := next_le (rd_in hc h hh)
       exact l.trans ((hy _ _).le ts n _ l.wf)
     · exact (hz _ _).le ts n σ h
    have l1 := gl ts n σ d.w; have l2 := gl us m τ d.v; refine ⟨Nat.le_trans d.a l1.le, Nat.le_trans d.b l2.le, l1.wf, l2.wf, fun h => ?_⟩; have hv := d.v; have hb := d.b
    have hend : τ.at_ = us.length := by omega
    unfold rdP
    rw [if_neg (by rw [rd_end hc hend]; decide)]
    rcases (hz (peekP us τ).kind (peekP us τ).text).fin us m τ hend with e | e
    · rw [e]; exact d.e h
    · rw [e]; exact Or.inr (d.un h)
  · unfold rdP
    obtain ⟨w1, w2⟩ := S.wf σ τ q; rw [← s.kind, ← s.text]
    split
    · rename_i hh
      have i1 := rd_in hc w1 hh; have i2 := rd_in hc w2 (by rw [← s.kind, ← s.text]; exact hh)
      exact (hy _ _).sim ts us n m c' Q S _ _ (s.next i1 i2)
    · exact (hz _ _).sim ts us n m c' Q S _ _ q
theorem FE.rd {α : Type} {c : Int → List UInt8 → Bool} {y z : Int → List UInt8 → Pr α} (hc : c 0 [] = false) (hz : FE (z 0 [])) : FE (rdP c y z) := fun ts n σ h => by
 unfold rdP
 rw [if_neg (by rw [rd_end hc h]; decide), peek_end h]
 exact hz ts n σ h
theorem GE.rd {α : Type} {c : Int → List UInt8 → Bool} {y z : Int → List UInt8 → Pr α} (hc : c 0 [] = false) (hy : ∀ k t, Good (y k t)) (hz : ∀ k t, Good (z k t)) (ly : ∀ k t, GE (y k t)) (lz : ∀ k t, GE (z k t)) (fz : FE (z 0 [])) : GE (rdP c y z) := fun ts us n m c' Q S σ τ q => by
 rcases S.syn σ τ q with d | s
 · exact Or.inr (d.stepE (Good.rd hc hy hz) (Good.rd hc hy hz) (FE.rd hc fz))
 · unfold rdP
   obtain ⟨w1, w2⟩ := S.wf σ τ q; rw [← s.kind, ← s.text]
   split
   · rename_i hh
     have i1 := rd_in hc w1 hh; have i2 := rd_in hc w2 (by rw [← s.kind, ← s.text]; exact hh)
     exact ly _ _ ts us n m c' Q S _ _ (s.next i1 i2)
   · exact lz _ _ ts us n m c' Q S _ _ q
theorem FE.un {α : Type} (x : α) : FE (unP x) := fun ts n σ h => rfl
theorem Good.un {α : Type} (x : α) : Good (unP x) where
 le := fun ts n σ h => unexp_le h
 fin := fun ts n σ h => Or.inr rfl
 sim := fun ts us n m c Q S σ τ q => by
  rcases S.syn σ τ q with d | s
  · right
    refine ⟨by unfold unP; rw [unexp_at]; exact d.a, by unfold unP; rw [unexp_at]; exact d.b, by unfold unP; rw [unexp_at]; exact d.w, by unfold unP; rw [unexp_at]; exact d.v, fun h => Or.inr (d.un h)⟩
  · exact Or.inl ⟨rfl, s.unexp⟩
theorem GE.un {α : Type} (x : α) : GE (unP x) := fun ts us n m c Q S σ τ q => by
 rcases S.syn σ τ q with d | s
 · exact Or.inr (d.stepE (Good.un x) (Good.un x) (FE.un x))
 · exact Or.inl ⟨rfl, s.unexp⟩
theorem Good.map {α β : Type} {p : Pr α} (f : α → β) (g : Good p) : Good (fun ts n σ => (f (p ts n σ).1, (p ts n σ).2)) := Good.bind g (fun x => Good.ret (f x))
def fullP {α : Type} (b : Bool) (g : Int → List UInt8 → Bool) (r : Pr α) : Pr α := fun ts n σ => if b && g (peekP ts σ).kind (peekP ts σ).text then r ts n (failP σ (peekP ts σ).pos 5) else r ts n σ
theorem Good.full {α : Type} {b : Bool} {g : Int → List UInt8 → Bool} {r : Pr α} (hc : g 0 [] = false) (hr : Good r) : Good (fullP b g r) := by
 have gl : ∀ (ts : List Tok) (n : Int) (σ : PS), σ.at_ ≤ ts.length → Le ts σ (fullP b g r ts n σ).2 := fun ts n σ h => by
  unfold fullP
  split
  · have l := fail_le (ts := ts) h (peekP ts σ).pos 5
    exact l.trans (hr.le ts n _ l.wf)
  · exact hr.le ts n σ h
 have gf : ∀ (ts : List Tok) (n : Int) (σ : PS), σ.at_ = ts.length → fullP b g r ts n σ = r ts n σ := fun ts n σ h => by
  unfold fullP
  rw [rd_end hc h]; simp
 refine ⟨gl, fun ts n σ h => by rw [gf ts n σ h]; exact hr.fin ts n σ h, fun ts us n m c' Q S σ τ q => ?_⟩
 rcases S.syn σ τ q with d | s
 · right
   have l1 := gl ts n σ d.w; have l2 := gl us m τ d.v; refine ⟨Nat.le_trans d.a l1.le, Nat.le_trans d.b l2.le, l1.wf, l2.wf, fun h => ?_⟩; have hv := d.v; have hb := d.b
   have hend : τ.at_ = us.length := by omega
   rw [gf us m τ hend]
   rcases hr.fin us m τ hend with e | e
   · rw [e]; exact d.e h
   · rw [e]; exact Or.inr (d.un h)
 · unfold fullP
   obtain ⟨w1, w2⟩ := S.wf σ τ q; rw [s.kind, s.text]
   split
   · rename_i hh
     have h2 := (Bool.and_eq_true_iff.1 hh).2; have i2 := rd_in hc w2 h2; have i1 := rd_in hc w1 (by rw [s.kind, s.text]; exact h2)
     exact hr.sim ts us n m c' Q S _ _ (s.full 5 i1 i2)
   · exact hr.sim ts us n m c' Q S _ _ q
def teP {α : Type} (g : Int → List UInt8 → Bool) (y z : Pr α) : Pr α := fun ts n σ => if g (peekP ts σ).kind (peekP ts σ).text then y ts n σ else z ts n σ
theorem Good.te {α : Type} {g : Int → List UInt8 → Bool} {y z : Pr α} (hy : Good y) (hz : Good z) : Good (teP g y z) := by
 have gl : ∀ (ts : List Tok) (n : Int) (σ : PS), σ.at_ ≤ ts.length → Le ts σ (teP g y z ts n σ).2 := fun ts n σ h => by
  unfold teP
  split
  · exact hy.le ts n σ h
  · exact hz.le ts n σ h
 have gf : ∀ (ts : List Tok) (n : Int) (σ : PS), σ.at_ = ts.length → (teP g y z ts n σ).2 = σ ∨ (teP g y z ts n σ).2 = unexpP ts n σ := fun ts n σ h => by
  unfold teP
  split
  · exact hy.fin ts n σ h
  · exact hz.fin ts n σ h
 refine ⟨gl, gf, fun ts us n m c Q S σ τ q => ?_⟩
 rcases S.syn σ τ q with d | s
 · exact Or.inr (d.of (gl _ _ _ d.w) (gl _ _ _ d.v) (gf us m τ))
 · unfold teP
   rw [s.kind, s.text]
   split
   · exact hy.sim ts us n m c Q S _ _ q
   · exact hz.sim ts us n m c Q S _ _ q
def erP {α : Type} (y z : Pr α) : Pr α := fun ts n σ => if σ.err ≠ 0 then y ts n σ else z ts n σ
theorem Good.er {α : Type} {y z : Pr α} (hy : Good y) (hz : Good z) : Good (erP y z) := by
 have gl : ∀ (ts : List Tok) (n : Int) (σ : PS), σ.at_ ≤ ts.length → Le ts σ (erP y z ts n σ).2 := fun ts n σ h => by
  unfold erP
  split
  · exact hy.le ts n σ h
  · exact hz.le ts n σ h
 have gf : ∀ (ts : List Tok) (n : Int) (σ : PS), σ.at_ = ts.length → (erP y z ts n σ).2 = σ ∨ (erP y z ts n σ).2 = unexpP ts n σ := fun ts n σ h => by
  unfold erP
  split
  · exact hy.fin ts n σ h
  · exact hz.fin ts n σ h
 refine ⟨gl, gf, fun ts us n m c Q S σ τ q => ?_⟩
 rcases S.syn σ τ q with d | s
 · exact Or.inr (d.of (gl _ _ _ d.w) (gl _ _ _ d.v) (gf us m τ))
 · unfold erP
   by_cases h : σ.err = 0
   · rw [if_neg (by simpa using h), if_neg (by simpa using s.err.1 h)]
     exact hz.sim ts us n m c Q S _ _ q
   · rw [if_pos h, if_pos (fun e => h (s.err.2 e))]
     exact hy.sim ts us n m c Q S _ _ q
theorem FE.er {α : Type} {y z : Pr α} (hy : Good y) (hz : FE z) : FE (erP y z) := fun ts n σ h => by
 unfold erP
 split
 · rename_i he
   rw [(hy.le ts n σ (by omega)).err he, (unexp_le (n := n) (by omega : σ.at_ ≤ ts.length)).err he]
 · exact hz ts n σ h
theorem GE.er {α : Type} {y z : Pr α} (hy : Good y) (hz : Good z) (ly : GE y) (lz : GE z) (fz : FE z) : GE (erP y z) := fun ts us n m c Q S σ τ q => by
 rcases S.syn σ τ q with d | s
 · exact Or.inr (d.stepE (Good.er hy hz) (Good.er hy hz) (FE.er hy fz))
 · unfold erP
   by_cases h : σ.err = 0
   · rw [if_neg (by simpa using h), if_neg (by simpa using s.err.1 h)]
     exact lz ts us n m c Q S _ _ q
   · rw [if_pos h, if_pos (fun e => h (s.err.2 e))]
     exact ly ts us n m c Q S _ _ q
end Bk
namespace Bk
open Go
def expP (t : List UInt8) : Pr Unit := rdP (fun _ u => decide (u = t)) (fun _ _ => retP ()) (fun _ _ => unP ())
theorem exp_at (t : List UInt8) (ts : List Tok) (n : Int) (σ : PS) : expectP ts n σ t = (expP t ts n σ).2 := by
 unfold expectP expP rdP hasP retP unP
 split <;> rfl
theorem ne_dec {t : List UInt8} (h : t ≠ []) : decide (([] : List UInt8) = t) = false := by simpa using fun e : [] = t => h e.symm
theorem good_exp {t : List UInt8} (h : t ≠ []) : Good (expP t) := Good.rd (ne_dec h) (fun _ _ => Good.ret _) (fun _ _ => Good.un _)
theorem good_name : Good (fun ts n σ => nameP ts n σ) :=
 Good.congr (q := rdP (fun _ t => isName t) (fun _ t => retP t) (fun _ _ => unP [])) (fun ts n σ => by unfold nameP rdP retP unP; split <;> rfl) (Good.rd (by decide) (fun _ _ => Good.ret _) (fun _ _ => Good.un _))
theorem bin_nil0 : binOf [] = none := by decide
def callC (k : Nat) (kind : Int) : Pr Nd := bindP (fun ts n σ => nameP ts n σ) (fun m => bindP (expP [40]) (fun _ => rdP (fun _ t => decide (t = [41])) (fun _ _ => retP (Nd.mk kind 0 m [])) (fun _ _ => bindP (fun ts n σ => argP ts n σ) (fun a => bindP (fun ts n σ => argsP ts n k [a] σ) (fun r => bindP (expP [41]) (fun _ => retP (Nd.mk kind 0 m r)))))))
def stackC (k : Nat) (kind : Int) : Pr Nd := bindP (fun ts n σ => placeP ts n k σ) (fun p => bindP (expP [44]) (fun _ => bindP (fun ts n σ => nameP ts n σ) (fun m => retP (Nd.mk kind 0 m [p]))))
def tapeC (k : Nat) (kind : Int) : Pr Nd := bindP (fun ts n σ => placeP ts n k σ) (fun p => retP (Nd.mk kind 0 [] [p]))
def branchC (k : Nat) (kind : Int) (mid last : List UInt8) : Pr Nd := bindP (fun ts n σ => exprP ts n k 1 σ) (fun a => bindP (fun ts n σ => blockP ts n k σ) (fun x => bindP (expP mid) (fun _ => bindP (fun ts n σ => blockP ts n k σ) (fun y => bindP (expP last) (fun _ => bindP (fun ts n σ => exprP ts n k 1 σ) (fun e => retP (Nd.mk kind 0 [] [a, x, y, e])))))))
def localC (k : Nat) : Pr Nd := rdP (fun _ t => decide (t = [115, 116, 97, 99, 107])) (fun _ _ => bindP (fun ts n σ => nameP ts n σ) (fun m => bindP (fun ts n σ => blockP ts n k σ) (fun x => retP (Nd.mk 55 0 m [x]))))
 (fun _ _ => bindP (fun ts n σ => nameP ts n σ) (fun m => bindP (expP [61]) (fun _ => bindP (fun ts n σ => exprP ts n k 1 σ) (fun a => bindP (fun ts n σ => blockP ts n k σ) (fun x => bindP (expP [100, 101, 108, 111, 99, 97, 108]) (fun _ => bindP (fun ts n σ => exprP ts n k 1 σ) (fun e => retP (Nd.mk 54 0 m [a, x, e]))))))))
def eqT (u : List UInt8) : Int → List UInt8 → Bool := fun _ t => decide (t = u)
def stmtC (B : Int → List UInt8 → List UInt8 → Pr Nd) (L : Pr Nd) (k : Nat) : Pr Nd :=
 rdP (eqT [112, 117, 115, 104]) (fun _ _ => stackC k 44) fun _ _ => rdP (eqT [112, 111, 112]) (fun _ _ => stackC k 45) fun _ _ => rdP (eqT [114, 101, 97, 100]) (fun _ _ => tapeC k 46) fun _ _ => rdP (eqT [117, 110, 114, 101, 97, 100]) (fun _ _ => tapeC k 47) fun _ _ =>
 rdP (eqT [119, 114, 105, 116, 101]) (fun _ _ => tapeC k 48) fun _ _ => rdP (eqT [117, 110, 119, 114, 105, 116, 101]) (fun _ _ => tapeC k 49) fun _ _ => rdP (eqT [99, 97, 108, 108]) (fun _ _ => callC k 50) fun _ _ => rdP (eqT [117, 110, 99, 97, 108, 108]) (fun _ _ => callC k 51) fun _ _ =>
 rdP (eqT [105, 102]) (fun _ _ => B 52 [101, 108, 115, 101] [102, 105]) fun _ _ => rdP (eqT [102, 114, 111, 109]) (fun _ _ => B 53 [108, 111, 111, 112] [117, 110, 116, 105, 108]) fun _ _ => rdP (eqT [108, 111, 99, 97, 108]) (fun _ _ => L) fun _ _ ts n σ => updateP ts n k σ
def stmtsC (S : Pr Nd) (k : Nat) (acc : List Nd) : Pr (List Nd) := rdP (eqT [125]) (fun _ _ => retP acc) (fun _ _ => bindP S (fun x => bindP (expP [59]) (fun _ ts n σ => stmtsP ts n k (acc ++ [x]) σ)))
end Bk
namespace Bk
open Go
def dclT : Int → List UInt8 → Bool := fun _ t => decide (t = [105, 110, 116]) || decide (t = [97, 114, 114, 97, 121]) || decide (t = [115, 116, 97, 99, 107])
def progC (k : Nat) : Pr PG := bindP (fun ts n σ => varsP ts n k [] σ) (fun v => bindP (fun ts n σ => procsP ts n k [] σ) (fun p => bindP (expP [109, 97, 105, 110]) (fun _ => bindP (fun ts n σ => bodyP ts n k σ) (fun b => retP ⟨v, p, b⟩))))
def TokEq (ts us : List Tok) : Prop := ts.map (fun t => (t.kind, t.text)) = us.map (fun t => (t.kind, t.text))
theorem TokEq.len {ts us : List Tok} (h : TokEq ts us) : ts.length = us.length := by simpa using congrArg List.length h
theorem TokEq.get {ts us : List Tok} (h : TokEq ts us) (i : Nat) : (ts.getD i Tok.zero).kind = (us.getD i Tok.zero).kind ∧ (ts.getD i Tok.zero).text = (us.getD i Tok.zero).text := by
 have hl := h.len
 by_cases hi : i < ts.length
 · have := congrArg (fun l => l[i]?) h
   simp only [List.getElem?_map] at this; rw [List.getElem?_eq_getElem hi, List.getElem?_eq_getElem (by omega)] at this; rw [List.getD_eq_getElem?_getD, List.getD_eq_getElem?_getD, List.getElem?_eq_getElem hi, List.getElem?_eq_getElem (by omega)]
   simpa using this
 · rw [List.getD_eq_getElem?_getD, List.getD_eq_getElem?_getD, List.getElem?_eq_none (by omega), List.getElem?_eq_none (by omega)]
   exact ⟨rfl, rfl⟩
theorem REq.symm {α : Type} {a b : α × PS} (h : REq a b) : REq b a := ⟨h.err.symm, h.off.symm, fun e => ⟨(h.ok (by rw [h.err]; exact e)).1.symm, (h.ok (by rw [h.err]; exact e)).2.symm⟩⟩
end Bk
namespace Bk
open Go
section
variable (ts : List Tok) (n : Int)
def fnumS (σ : PS) : Nd × PS :=
 if (digitsVal (peekP ts σ).text : Int) ≤ 9223372036854775807 then (.mk 80 (digitsVal (peekP ts σ).text : Int) [] [], nextP σ)
 else (.mk 80 0 [] [], failP σ (peekP ts σ).pos 2)
mutual
def exprS : Nat → Int → PS → Nd × PS
 | 0, _, σ => (.mk 0 0 [] [], σ)
 | k + 1, lv, σ => if 8 < lv then primS k σ else loopS k lv (exprS k (lv + 1) σ).1 (exprS k (lv + 1) σ).2
def loopS : Nat → Int → Nd → PS → Nd × PS
 | 0, _, x, σ => (x, σ)
 | k + 1, lv, x, σ => if σ.err ≠ 0 then (x, σ) else match binOf (peekP ts σ).text with
  | none => (x, σ)
  | some op => if level op ≠ lv then (x, σ) else
   loopS k lv (.mk 82 op [] [x, (exprS k (lv + 1) (nextP σ)).1]) (exprS k (lv + 1) (nextP σ)).2
def primS : Nat → PS → Nd × PS
 | 0, σ => (.mk 0 0 [] [], σ)
 | k + 1, σ =>
  if startsDigit (peekP ts σ).text then fnumS ts σ
  else if hasP ts σ [91] then (.mk 86 0 [] [], expectP ts n (nextP σ) [93])
  else if hasP ts σ [112, 117, 115, 104] then (.mk 87 0 [] (argsS k 2 (nextP σ)).1, (argsS k 2 (nextP σ)).2)
  else if hasP ts σ [112, 111, 112] then (.mk 89 0 [] (argsS k 1 (nextP σ)).1, (argsS k 1 (nextP σ)).2)
  else if hasP ts σ [116, 111, 112] then (.mk 88 0 [] (argsS k 1 (nextP σ)).1, (argsS k 1 (nextP σ)).2)
  else if hasP ts σ [33] then (.mk 90 0 [] [(primS k (nextP σ)).1], (primS k (nextP σ)).2)
  else if hasP ts σ [105, 102] then
   let c := exprS k 1 (nextP σ)
   let a := braceS k c.2
   let b := braceS k (expectP ts n a.2 [101, 108, 115, 101])
   (.mk 83 0 [] [c.1, a.1, b.1], b.2)
  else if hasP ts σ [108, 111, 99, 97, 108] then
   let m := nameP ts n (nextP σ)
   let v := exprS k 1 (expectP ts n m.2 [61])
   let b := braceS k v.2
   (.mk 84 0 m.1 [v.1, b.1], b.2)
  else if hasP ts σ [40] then ((exprS k 1 (nextP σ)).1, expectP ts n (exprS k 1 (nextP σ)).2 [41])
  else
   let m := nameP ts n σ
   if (peekP ts m.2).text = [40] then (.mk 85 0 m.1 (argsS k 0 m.2).1, (argsS k 0 m.2).2) else (.mk 81 0 m.1 [], m.2)
def argsS : Nat → Nat → PS → List Nd × PS
 | 0, _, σ => ([], σ)
 | k + 1, least, σ =>
  let σ1 := expectP ts n σ [40]
  if least = 0 ∧ hasP ts σ1 [41] = true then ([], nextP σ1)
  else
   let r := listS k least [] σ1
   (r.1, expectP ts n (if r.1.length < least then unexpP ts n r.2 else r.2) [41])
def listS : Nat → Nat → List Nd → PS → List Nd × PS
 | 0, _, acc, σ => (acc, σ)
 | k + 1, least, acc, σ =>
  if σ.err ≠ 0 then (acc, σ) else
  let a := exprS k 1 σ
  if 0 < least ∧ acc.length + 1 = least then (acc ++ [a.1], a.2)
  else if hasP ts a.2 [44] then listS k least (acc ++ [a.1]) (nextP a.2) else (acc ++ [a.1], a.2)
def braceS : Nat → PS → Nd × PS
 | 0, σ => (.mk 0 0 [] [], σ)
 | k + 1, σ =>
  let a := exprS k 1 (expectP ts n σ [123])
  (a.1, expectP ts n a.2 [125])
end
def functionS (k : Nat) (σ : PS) : FD × PS :=
 let m := nameP ts n (expectP ts n σ [112, 114, 111, 99])
 let σ1 := expectP ts n m.2 [40]
 let r := if σ1.err = 0 ∧ (peekP ts σ1).text ≠ [41] then fparamsP ts n k [] σ1 else ([], σ1)
 let l := listP ts n (expectP ts n r.2 [41])
 let b := braceS ts n k l.2
 (⟨m.1, r.1, l.1, b.1⟩, b.2)
def libS : Nat → List FD → List Int → PS → (List FD × List Int) × PS
 | 0, acc, at_, σ => ((acc, at_), σ)
 | k + 1, acc, at_, σ =>
  if σ.err = 0 ∧ σ.at_ < ts.length then
   libS k (acc ++ [(functionS ts n k σ).1]) (at_ ++ [(ts.getD σ.at_ Tok.zero).pos]) (functionS ts n k σ).2
  else ((acc, at_), σ)
end
end Bk
namespace Bk
open Go
def fnumZ (z : Pr Nd) : Pr Nd := fun ts n σ => if (peekP ts σ).kind = 2 then fnumP ts σ else z ts n σ
theorem good_fnumZ {z : Pr Nd} (hz : Good z) : Good (fnumZ z) := by
 have gl : ∀ (ts : List Tok) (n : Int) (σ : PS), σ.at_ ≤ ts.length → Le ts σ (fnumZ z ts n σ).2 := fun ts n σ h => by
  unfold fnumZ
  split
  · rename_i hh
    have hn := peek_in h (Or.inr (by rw [hh]; decide))
    unfold fnumP
    split
    · exact next_le hn
    · exact fail_le h _ _
  · exact hz.le ts n σ h
 have gf : ∀ (ts : List Tok) (n : Int) (σ : PS), σ.at_ = ts.length → (fnumZ z ts n σ).2 = σ ∨ (fnumZ z ts n σ).2 = unexpP ts n σ := fun ts n σ h => by
  unfold fnumZ
  rw [peek_end h, if_neg (by decide)]
  exact hz.fin ts n σ h
 refine ⟨gl, gf, fun ts us n m c Q S σ τ q => ?_⟩
 rcases S.syn σ τ q with d | s
 · exact Or.inr (d.of (gl _ _ _ d.w) (gl _ _ _ d.v) (gf us m τ))
 · obtain ⟨w1, w2⟩ := S.wf σ τ q
   unfold fnumZ
   rw [← s.kind]
   by_cases hk : (peekP ts σ).kind = 2
   · have i1 := peek_in w1 (Or.inr (by rw [hk]; decide))
     have i2 := peek_in w2 (Or.inr (by rw [← s.kind, hk]; decide)); rw [if_pos hk, if_pos hk]
     unfold fnumP
     rw [← s.text]
     split
     · exact Or.inl ⟨rfl, s.next i1 i2⟩
     · exact Or.inl ⟨rfl, s.full 2 i1 i2⟩
   · rw [if_neg hk, if_neg hk]
     exact hz.sim ts us n m c Q S _ _ q
abbrev eqF (t : List UInt8) : Int → List UInt8 → Bool := fun _ u => decide (u = t)
theorem eqF_nil {t : List UInt8} (h : t ≠ []) : eqF t 0 [] = false := ne_dec h
def args1C (e : Pr Nd) : Pr (List Nd) := bindP (expP [40]) (fun _ => bindP e (fun a => bindP (expP [41]) (fun _ => retP [a])))
def args2C (e : Pr Nd) : Pr (List Nd) := bindP (expP [40]) (fun _ => bindP e (fun a => bindP (expP [44]) (fun _ => bindP e (fun b => bindP (expP [41]) (fun _ => retP [a, b])))))
def braceC (e : Pr Nd) : Pr Nd := bindP (expP [123]) (fun _ => bindP e (fun a => bindP (expP [125]) (fun _ => retP a)))
def ifC (e b : Pr Nd) : Pr Nd := bindP (expP [105, 102]) (fun _ => bindP e (fun c => bindP b (fun x => bindP (expP [101, 108, 115, 101]) (fun _ => bindP b (fun y => retP (Nd.mk 83 0 [] [c, x, y]))))))
def letC (e b : Pr Nd) : Pr Nd := bindP (expP [108, 111, 99, 97, 108]) (fun _ => bindP (fun ts n σ => nameP ts n σ) (fun m => bindP (expP [61]) (fun _ => bindP e (fun v => bindP b (fun y => retP (Nd.mk 84 0 m [v, y]))))))
def namedC (e : Pr Nd) (r : List Nd → Pr (List Nd)) : Pr Nd := bindP (fun ts n σ => nameP ts n σ) (fun m => rdP (eqF [40]) (fun _ _ => rdP (eqF [41]) (fun _ _ => retP (Nd.mk 85 0 m [])) (fun _ _ => bindP e (fun a => bindP (r [a]) (fun l => bindP (expP [41]) (fun _ => retP (Nd.mk 85 0 m l)))))) (fun _ _ => retP (Nd.mk 81 0 m [])))
def moreC (e : Pr Nd) (r : List Nd → Pr (List Nd)) (acc : List Nd) : Pr (List Nd) := rdP (eqF [44]) (fun _ _ => bindP e (fun a => r (acc ++ [a]))) (fun _ _ => retP acc)
def climbC (lv : Int) (x : Nd) (e : Int → Pr Nd) (r : Nd → Pr Nd) : Pr Nd := rdP (fun _ t => match binOf t with | none => false | some op => !decide (level op < lv)) (fun _ t => match binOf t with | none => retP x | some op => bindP (e (level op + 1)) (fun y => r (.mk 82 op [] [x, y]))) (fun _ _ => retP x)
def primC (e p i l d : Pr Nd) (a1 a2 : Pr (List Nd)) : Pr Nd :=
 rdP (eqF [91]) (fun _ _ => bindP (expP [93]) (fun _ => retP (Nd.mk 86 0 [] []))) (fun _ _ =>
 rdP (eqF [112, 117, 115, 104]) (fun _ _ => bindP a2 (fun x => retP (Nd.mk 87 0 [] x))) (fun _ _ =>
 rdP (eqF [112, 111, 112]) (fun _ _ => bindP a1 (fun x => retP (Nd.mk 89 0 [] x))) (fun _ _ =>
 rdP (eqF [116, 111, 112]) (fun _ _ => bindP a1 (fun x => retP (Nd.mk 88 0 [] x))) (fun _ _ =>
 rdP (eqF [33]) (fun _ _ => bindP p (fun x => retP (Nd.mk 90 0 [] [x]))) (fun _ _ =>
 teP (eqF [105, 102]) i (teP (eqF [108, 111, 99, 97, 108]) l
  (rdP (eqF [40]) (fun _ _ => bindP e (fun x => bindP (expP [41]) (fun _ => retP x))) (fun _ _ => fnumZ d))))))))
theorem exprF_at (k : Nat) (lv : Int) (ts : List Tok) (n : Int) (σ : PS) : exprF ts n (k + 1) lv σ = bindP (fun ts n σ => primF ts n k σ) (fun x ts n σ => climbF ts n k lv x σ) ts n σ := by rw [exprF]; rfl
theorem climbF_at (k : Nat) (lv : Int) (x : Nd) (ts : List Tok) (n : Int) (σ : PS) : climbF ts n (k + 1) lv x σ = climbC lv x (fun l ts n σ => exprF ts n k l σ) (fun y ts n σ => climbF ts n k lv y σ) ts n σ := by
 rw [climbF]
 unfold climbC rdP
 cases ho : binOf (peekP ts σ).text with
 | none => simp only [ho]; rfl
 | some op =>
  by_cases hl : level op < lv
  · simp only [ho, hl, decide_true, Bool.not_true, if_true, Bool.false_eq_true, if_false]; rfl
  · simp only [ho, hl, decide_false, Bool.not_false, if_true, if_false]; rfl
theorem args1F_at (k : Nat) (ts : List Tok) (n : Int) (σ : PS) : args1F ts n (k + 1) σ = args1C (fun ts n σ => exprF ts n k 1 σ) ts n σ := by rw [args1F]; simp only [exp_at]; rfl
theorem args2F_at (k : Nat) (ts : List Tok) (n : Int) (σ : PS) : args2F ts n (k + 1) σ = args2C (fun ts n σ => exprF ts n k 1 σ) ts n σ := by rw [args2F]; simp only [exp_at]; rfl
theorem braceF_at (k : Nat) (ts : List Tok) (n : Int) (σ : PS) : braceF ts n (k + 1) σ = braceC (fun ts n σ => exprF ts n k 1 σ) ts n σ := by rw [braceF]; simp only [exp_at]; rfl
theorem ifF_at (k : Nat) (ts : List Tok) (n : Int) (σ : PS) : ifF ts n (k + 1) σ = ifC (fun ts n σ => exprF ts n k 1 σ) (fun ts n σ => braceF ts n k σ) ts n σ := by rw [ifF]; simp only [exp_at]; rfl
theorem letF_at (k : Nat) (ts : List Tok) (n : Int) (σ : PS) : letF ts n (k + 1) σ = letC (fun ts n σ => exprF ts n k 1 σ) (fun ts n σ => braceF ts n k σ) ts n σ := by rw [letF]; simp only [exp_at]; rfl
theorem namedF_at (k : Nat) (ts : List Tok) (n : Int) (σ : PS) : namedF ts n (k + 1) σ = namedC (fun ts n σ => exprF ts n k 1 σ) (fun a ts n σ => moreF ts n k a σ) ts n σ := by rw [namedF]; simp only [exp_at]; rfl
theorem moreF_at (k : Nat) (acc : List Nd) (ts : List Tok) (n : Int) (σ : PS) : moreF ts n (k + 1) acc σ = moreC (fun ts n σ => exprF ts n k 1 σ) (fun a ts n σ => moreF ts n k a σ) acc ts n σ := by rw [moreF]; rfl
theorem primF_at (k : Nat) (ts : List Tok) (n : Int) (σ : PS) : primF ts n (k + 1) σ = primC (fun ts n σ => exprF ts n k 1 σ) (fun ts n σ => primF ts n k σ) (fun ts n σ => ifF ts n k σ) (fun ts n σ => letF ts n k σ) (fun ts n σ => namedF ts n k σ) (fun ts n σ => args1F ts n k σ) (fun ts n σ => args2F ts n k σ) ts n σ := by rw [primF]; simp only [exp_at]; rfl
section
variable {e p i l d b : Pr Nd} {a1 a2 : Pr (List Nd)} {r : List Nd → Pr (List Nd)}
theorem good_args1C (he : Good e) : Good (args1C e) := Good.bind (good_exp (by decide)) (fun _ => Good.bind he (fun _ => Good.bind (good_exp (by decide)) (fun _ => Good.ret _)))
theorem good_args2C (he : Good e) : Good (args2C e) := Good.bind (good_exp (by decide)) (fun _ => Good.bind he (fun _ => Good.bind (good_exp (by decide)) (fun _ => Good.bind he (fun _ => Good.bind (good_exp (by decide)) (fun _ => Good.ret _)))))
theorem good_braceC (he : Good e) : Good (braceC e) := Good.bind (good_exp (by decide)) (fun _ => Good.bind he (fun _ => Good.bind (good_exp (by decide)) (fun _ => Good.ret _)))
theorem good_ifC (he : Good e) (hb : Good b) : Good (ifC e b) := Good.bind (good_exp (by decide)) (fun _ => Good.bind he (fun _ => Good.bind hb (fun _ => Good.bind (good_exp (by decide)) (fun _ => Good.bind hb (fun _ => Good.ret _)))))
theorem good_letC (he : Good e) (hb : Good b) : Good (letC e b) := Good.bind (good_exp (by decide)) (fun _ => Good.bind good_name (fun _ => Good.bind (good_exp (by decide)) (fun _ => Good.bind he (fun _ => Good.bind hb (fun _ => Good.ret _)))))
theorem good_namedC (he : Good e) (hr : ∀ a, Good (r a)) : Good (namedC e r) := Good.bind good_name (fun _ => Good.rd (eqF_nil (by decide)) (fun _ _ => Good.rd (eqF_nil (by decide)) (fun _ _ => Good.ret _) (fun _ _ => Good.bind he (fun _ => Good.bind (hr _) (fun _ => Good.bind (good_exp (by decide)) (fun _ => Good.ret _))))) (fun _ _ => Good.ret _))
theorem good_moreC (he : Good e) (hr : ∀ a, Good (r a)) (acc : List Nd) : Good (moreC e r acc) := Good.rd (eqF_nil (by decide)) (fun _ _ => Good.bind he (fun _ => hr _)) (fun _ _ => Good.ret _)
theorem good_climbC (lv : Int) (x : Nd) {e : Int → Pr Nd} {r : Nd → Pr Nd} (he : ∀ l, Good (e l)) (hr : ∀ y, Good (r y)) : Good (climbC lv x e r) := by
 refine Good.rd (by rw [bin_nil0]) (fun _ t => ?_) (fun _ _ => Good.ret _)
 cases binOf t with
 | none => exact Good.ret _
 | some op => exact Good.bind (he _) (fun y => hr _)
theorem good_primC (he : Good e) (hp : Good p) (hi : Good i) (hl : Good l) (hd : Good d) (h1 : Good a1) (h2 : Good a2) : Good (primC e p i l d a1 a2) :=
 Good.rd (eqF_nil (by decide)) (fun _ _ => Good.bind (good_exp (by decide)) (fun _ => Good.ret _)) (fun _ _ =>
 Good.rd (eqF_nil (by decide)) (fun _ _ => Good.bind h2 (fun _ => Good.ret _)) (fun _ _ =>
 Good.rd (eqF_nil (by decide)) (fun _ _ => Good.bind h1 (fun _ => Good.ret _)) (fun _ _ =>
 Good.rd (eqF_nil (by decide)) (fun _ _ => Good.bind h1 (fun _ => Good.ret _)) (fun _ _ =>
 Good.rd (eqF_nil (by decide)) (fun _ _ => Good.bind hp (fun _ => Good.ret _)) (fun _ _ =>
 Good.te hi (Good.te hl (Good.rd (eqF_nil (by decide)) (fun _ _ => Good.bind he (fun _ => Good.bind (good_exp (by decide)) (fun _ => Good.ret _))) (fun _ _ => good_fnumZ hd))))))))
end
structure GoodF (k : Nat) : Prop where
 e : ∀ lv, Good (fun ts n σ => exprF ts n k lv σ)
 c : ∀ lv x, Good (fun ts n σ => climbF ts n k lv x σ)
 p : Good (fun ts n σ => primF ts n k σ)
 i : Good (fun ts n σ => ifF ts n k σ)
 l : Good (fun ts n σ => letF ts n k σ)
 d : Good (fun ts n σ => namedF ts n k σ)
 a1 : Good (fun ts n σ => args1F ts n k σ)
 a2 : Good (fun ts n σ => args2F ts n k σ)
 b : Good (fun ts n σ => braceF ts n k σ)
 m : ∀ acc, Good (fun ts n σ => moreF ts n k acc σ)
theorem good_F (k : Nat) : GoodF k := by
 induction k with
 | zero =>
  exact ⟨fun lv => Good.congr (fun ts n σ => by rw [exprF]; rfl) (Good.ret (Nd.mk 0 0 [] [])), fun lv x => Good.congr (fun ts n σ => by rw [climbF]; rfl) (Good.ret x), Good.congr (fun ts n σ => by rw [primF]; rfl) (Good.ret (Nd.mk 0 0 [] [])),
   Good.congr (fun ts n σ => by rw [ifF]; rfl) (Good.ret (Nd.mk 0 0 [] [])), Good.congr (fun ts n σ => by rw [letF]; rfl) (Good.ret (Nd.mk 0 0 [] [])), Good.congr (fun ts n σ => by rw [namedF]; rfl) (Good.ret (Nd.mk 0 0 [] [])), Good.congr (fun ts n σ => by rw [args1F]; rfl) (Good.ret []),
   Good.congr (fun ts n σ => by rw [args2F]; rfl) (Good.ret []), Good.congr (fun ts n σ => by rw [braceF]; rfl) (Good.ret (Nd.mk 0 0 [] [])), fun acc => Good.congr (fun ts n σ => by rw [moreF]; rfl) (Good.ret acc)⟩
 | succ k ih =>
  exact ⟨fun lv => Good.congr (exprF_at k lv) (Good.bind ih.p (fun x => ih.c lv x)), fun lv x => Good.congr (climbF_at k lv x) (good_climbC lv x ih.e (fun y => ih.c lv y)), Good.congr (primF_at k) (good_primC (ih.e 1) ih.p ih.i ih.l ih.d ih.a1 ih.a2),
   Good.congr (ifF_at k) (good_ifC (ih.e 1) ih.b), Good.congr (letF_at k) (good_letC (ih.e 1) ih.b), Good.congr (namedF_at k) (good_namedC (ih.e 1) ih.m), Good.congr (args1F_at k) (good_args1C (ih.e 1)), Good.congr (args2F_at k) (good_args2C (ih.e 1)),
   Good.congr (braceF_at k) (good_braceC (ih.e 1)), fun acc => Good.congr (moreF_at k acc) (good_moreC (ih.e 1) ih.m acc)⟩
end Bk
namespace Bk
open Go
def LtP {α : Type} (p : Pr α) : Prop := ∀ ts n σ, σ.at_ ≤ ts.length → Lt σ (p ts n σ).2
theorem LtP.congr {α : Type} {p q : Pr α} (h : ∀ ts n σ, p ts n σ = q ts n σ) (g : LtP q) : LtP p := fun ts n σ hw => by rw [h]; exact g ts n σ hw
theorem LtP.bind {α β : Type} {p : Pr α} {f : α → Pr β} (h : LtP p) (gp : Good p) (gf : ∀ x, Good (f x)) : LtP (bindP p f) := fun ts n σ hw => Lt.of_lt (h ts n σ hw) ((gf _).le ts n _ (gp.le ts n σ hw).wf)
theorem LtP.rd {α : Type} {c : Int → List UInt8 → Bool} {y z : Int → List UInt8 → Pr α} (hc : c 0 [] = false) (hy : ∀ k t, Good (y k t)) (hz : ∀ k t, LtP (z k t)) : LtP (rdP c y z) := fun ts n σ hw => by
 unfold rdP
 split
 · rename_i hh
   exact Lt.of_lt next_lt ((hy _ _).le ts n _ (next_le (rd_in hc hw hh)).wf)
 · exact hz _ _ ts n σ hw
theorem LtP.te {α : Type} {g : Int → List UInt8 → Bool} {y z : Pr α} (hy : LtP y) (hz : LtP z) : LtP (teP g y z) := fun ts n σ hw => by
 unfold teP
 split
 · exact hy ts n σ hw
 · exact hz ts n σ hw
theorem LtP.un {α : Type} (x : α) : LtP (unP x) := fun ts n σ hw => unexp_lt
theorem lt_exp {t : List UInt8} : LtP (expP t) := fun ts n σ hw => by rw [← exp_at]; exact expect_lt
theorem lt_name : LtP (fun ts n σ => nameP ts n σ) := fun ts n σ hw => name_lt
theorem lt_fnumZ {z : Pr Nd} (hz : LtP z) : LtP (fnumZ z) := fun ts n σ hw => by
 unfold fnumZ fnumP
 split
 · split
   · exact next_lt
   · exact fun e => absurd e (fail_err (by decide))
 · exact hz ts n σ hw
theorem lt_prim (k : Nat) : LtP (fun ts n σ => primF ts n (k + 2) σ) := by
 have g := good_F (k + 1); have g0 := good_F k; refine LtP.congr (primF_at (k + 1)) ?_
 refine LtP.rd (eqF_nil (by decide)) (fun _ _ => Good.bind (good_exp (by decide)) (fun _ => Good.ret _)) (fun _ _ => LtP.rd (eqF_nil (by decide)) (fun _ _ => Good.bind g.a2 (fun _ => Good.ret _)) (fun _ _ => LtP.rd (eqF_nil (by decide)) (fun _ _ => Good.bind g.a1 (fun _ => Good.ret _)) (fun _ _ =>
  LtP.rd (eqF_nil (by decide)) (fun _ _ => Good.bind g.a1 (fun _ => Good.ret _)) (fun _ _ => LtP.rd (eqF_nil (by decide)) (fun _ _ => Good.bind g.p (fun _ => Good.ret _)) (fun _ _ => LtP.te ?_ (LtP.te ?_ (LtP.rd (eqF_nil (by decide)) (fun _ _ => Good.bind (g.e 1) (fun _ => Good.bind (good_exp (by decide)) (fun _ => Good.ret _))) (fun _ _ => lt_fnumZ ?_))))))))
 · exact LtP.congr (ifF_at k) (LtP.bind lt_exp (good_exp (by decide)) (fun _ => Good.bind (g0.e 1) (fun _ => Good.bind g0.b (fun _ => Good.bind (good_exp (by decide)) (fun _ => Good.bind g0.b (fun _ => Good.ret _))))))
 · exact LtP.congr (letF_at k) (LtP.bind lt_exp (good_exp (by decide)) (fun _ => Good.bind good_name (fun _ => Good.bind (good_exp (by decide)) (fun _ => Good.bind (g0.e 1) (fun _ => Good.bind g0.b (fun _ => Good.ret _))))))
 · exact LtP.congr (namedF_at k) (LtP.bind lt_name good_name (fun _ => Good.rd (eqF_nil (by decide)) (fun _ _ => Good.rd (eqF_nil (by decide)) (fun _ _ => Good.ret _) (fun _ _ => Good.bind (g0.e 1) (fun _ => Good.bind (g0.m _) (fun _ => Good.bind (good_exp (by decide)) (fun _ => Good.ret _))))) (fun _ _ => Good.ret _)))
section
variable (ts : List Tok) (n : Int)
def EqB {α : Type} (m : Nat) (p q : Pr α) : Prop := ∀ σ, σ.at_ ≤ ts.length → mS ts σ ≤ m → p ts n σ = q ts n σ
def RQ {α : Type} (m : Nat) (p q : Pr α) : Prop := ∀ σ, σ.at_ ≤ ts.length → mS ts σ ≤ m → REq (p ts n σ) (q ts n σ)
end
section
variable {ts : List Tok} {n : Int} {m : Nat}
theorem EqB.refl {α : Type} (p : Pr α) : EqB ts n m p p := fun _ _ _ => rfl
theorem EqB.mono {α : Type} {p q : Pr α} {m' : Nat} (h : EqB ts n m p q) (hm : m' ≤ m) : EqB ts n m' p q := fun σ hw h' => h σ hw (Nat.le_trans h' hm)
theorem EqB.congr {α : Type} {p p' q q' : Pr α} (hp : ∀ ts n σ, p ts n σ = p' ts n σ) (hq : ∀ ts n σ, q ts n σ = q' ts n σ) (h : EqB ts n m p' q') : EqB ts n m p q := fun σ hw hm => by rw [hp, hq]; exact h σ hw hm
theorem EqB.bind {α β : Type} {p q : Pr α} {f g : α → Pr β} (hp : EqB ts n m p q) (gp : Good p) (hf : ∀ x, EqB ts n m (f x) (g x)) : EqB ts n m (bindP p f) (bindP q g) := fun σ hw hm => by
 unfold bindP
 rw [← hp σ hw hm]; have l := gp.le ts n σ hw
 exact hf _ _ l.wf (Nat.le_trans (mS_le l) hm)
theorem EqB.bindL {α β : Type} {p q : Pr α} {f g : α → Pr β} (hp : EqB ts n m p q) (gp : Good p) (lp : LtP p) (hf : ∀ x, EqB ts n (m - 1) (f x) (g x)) : EqB ts n m (bindP p f) (bindP q g) := fun σ hw hm => by
 unfold bindP
 rw [← hp σ hw hm]; have l := gp.le ts n σ hw; have := mS_lt l (lp ts n σ hw)
 exact hf _ _ l.wf (by omega)
theorem EqB.rd {α : Type} {c : Int → List UInt8 → Bool} {y z y' z' : Int → List UInt8 → Pr α} (hc : c 0 [] = false) (hy : 1 ≤ m → ∀ k t, EqB ts n (m - 1) (y k t) (y' k t)) (hz : ∀ k t, EqB ts n m (z k t) (z' k t)) : EqB ts n m (rdP c y z) (rdP c y' z') := fun σ hw hm => by
 unfold rdP
 split
 · rename_i hh
   have i := rd_in hc hw hh; have := mS_next i
   exact hy (by omega) _ _ _ (next_le i).wf (by omega)
 · exact hz _ _ σ hw hm
theorem EqB.te {α : Type} {c : Int → List UInt8 → Bool} {y z y' z' : Pr α} (hc : c 0 [] = false) (hy : 1 ≤ m → EqB ts n m y y') (hz : EqB ts n m z z') : EqB ts n m (teP c y z) (teP c y' z') := fun σ hw hm => by
 unfold teP
 split
 · rename_i hh
   have := mS_pos (rd_in hc hw hh)
   exact hy (by omega) σ hw hm
 · exact hz σ hw hm
theorem EqB.fnumZ {z z' : Pr Nd} (hz : EqB ts n m z z') : EqB ts n m (fnumZ z) (Bk.fnumZ z') := fun σ hw hm => by
 unfold Bk.fnumZ
 split
 · rfl
 · exact hz σ hw hm
structure FuelF (ts : List Tok) (n : Int) (k : Nat) : Prop where
 e : ∀ m lv, 4 * m + 4 ≤ k → EqB ts n m (fun ts n σ => exprF ts n (k + 1) lv σ) (fun ts n σ => exprF ts n k lv σ)
 c : ∀ m lv x, 4 * m + 1 ≤ k → EqB ts n m (fun ts n σ => climbF ts n (k + 1) lv x σ) (fun ts n σ => climbF ts n k lv x σ)
 p : ∀ m, 4 * m + 3 ≤ k → EqB ts n m (fun ts n σ => primF ts n (k + 1) σ) (fun ts n σ => primF ts n k σ)
 i : ∀ m, 1 ≤ m → 4 * m + 2 ≤ k → EqB ts n m (fun ts n σ => ifF ts n (k + 1) σ) (fun ts n σ => ifF ts n k σ)
 l : ∀ m, 1 ≤ m → 4 * m + 2 ≤ k → EqB ts n m (fun ts n σ => letF ts n (k + 1) σ) (fun ts n σ => letF ts n k σ)
 d : ∀ m, 4 * m + 2 ≤ k → EqB ts n m (fun ts n σ => namedF ts n (k + 1) σ) (fun ts n σ => namedF ts n k σ)
 a1 : ∀ m, 4 * m + 5 ≤ k → EqB ts n m (fun ts n σ => args1F ts n (k + 1) σ) (fun ts n σ => args1F ts n k σ)
 a2 : ∀ m, 4 * m + 5 ≤ k → EqB ts n m (fun ts n σ => args2F ts n (k + 1) σ) (fun ts n σ => args2F ts n k σ)
 b : ∀ m, 4 * m + 5 ≤ k → EqB ts n m (fun ts n σ => braceF ts n (k + 1) σ) (fun ts n σ => braceF ts n k σ)
 m : ∀ m acc, 4 * m + 1 ≤ k → EqB ts n m (fun ts n σ => moreF ts n (k + 1) acc σ) (fun ts n σ => moreF ts n k acc σ)
theorem fuel_F (k : Nat) : FuelF ts n k := by
 induction k with
 | zero => refine ⟨?_, ?_, ?_, ?_, ?_, ?_, ?_, ?_, ?_, ?_⟩ <;> intros <;> omega
 | succ k ih =>
  have g1 := good_F (k + 1)
  have hE : ∀ m, EqB ts n m (expP [40]) (expP [40]) := fun m => EqB.refl _
  refine ⟨fun m lv h => ?_, fun m lv x h => ?_, fun m h => ?_, fun m h1 h => ?_, fun m h1 h => ?_, fun m h => ?_, fun m h => ?_, fun m h => ?_, fun m h => ?_, fun m acc h => ?_⟩
  · refine EqB.congr (exprF_at (k + 1) lv) (exprF_at k lv) ?_
    obtain ⟨k, rfl⟩ : ∃ j, k = j + 1 := ⟨k - 1, by omega⟩
    exact EqB.bindL (ih.p m (by omega)) g1.p (lt_prim k) (fun x => ih.c (m - 1) lv x (by omega))
  · refine EqB.congr (climbF_at (k + 1) lv x) (climbF_at k lv x) ?_
    refine EqB.rd (by rw [bin_nil0]) (fun h1 _ t => ?_) (fun _ _ => EqB.refl _)
    cases binOf t with
    | none => exact EqB.refl _
    | some op => exact EqB.bind (ih.e (m - 1) _ (by omega)) (g1.e _) (fun y => ih.c (m - 1) lv _ (by omega))
  · refine EqB.congr (primF_at (k + 1)) (primF_at k) ?_
    exact EqB.rd (eqF_nil (by decide)) (fun _ _ _ => EqB.refl _) (fun _ _ =>
     EqB.rd (eqF_nil (by decide)) (fun h1 _ _ => EqB.bind (ih.a2 (m - 1) (by omega)) g1.a2 (fun _ => EqB.refl _)) (fun _ _ =>
     EqB.rd (eqF_nil (by decide)) (fun h1 _ _ => EqB.bind (ih.a1 (m - 1) (by omega)) g1.a1 (fun _ => EqB.refl _)) (fun _ _ =>
     EqB.rd (eqF_nil (by decide)) (fun h1 _ _ => EqB.bind (ih.a1 (m - 1) (by omega)) g1.a1 (fun _ => EqB.refl _)) (fun _ _ =>
     EqB.rd (eqF_nil (by decide)) (fun h1 _ _ => EqB.bind (ih.p (m - 1) (by omega)) g1.p (fun _ => EqB.refl _)) (fun _ _ =>
     EqB.te (eqF_nil (by decide)) (fun h1 => ih.i m h1 (by omega)) (EqB.te (eqF_nil (by decide)) (fun h1 => ih.l m h1 (by omega))
      (EqB.rd (eqF_nil (by decide)) (fun h1 _ _ => EqB.bind (ih.e (m - 1) 1 (by omega)) (g1.e 1) (fun _ => EqB.refl _)) (fun _ _ => EqB.fnumZ (ih.d m (by omega))))))))))
  · refine EqB.congr (ifF_at (k + 1)) (ifF_at k) ?_
    exact EqB.bindL (EqB.refl _) (good_exp (by decide)) lt_exp (fun _ => EqB.bind (ih.e (m - 1) 1 (by omega)) (g1.e 1) (fun _ => EqB.bind (ih.b (m - 1) (by omega)) g1.b (fun _ => EqB.bind (EqB.refl _) (good_exp (by decide)) (fun _ => EqB.bind (ih.b (m - 1) (by omega)) g1.b (fun _ => EqB.refl _)))))
  · refine EqB.congr (letF_at (k + 1)) (letF_at k) ?_
    exact EqB.bindL (EqB.refl _) (good_exp (by decide)) lt_exp (fun _ => EqB.bind (EqB.refl _) good_name (fun _ => EqB.bind (EqB.refl _) (good_exp (by decide)) (fun _ => EqB.bind (ih.e (m - 1) 1 (by omega)) (g1.e 1) (fun _ => EqB.bind (ih.b (m - 1) (by omega)) g1.b (fun _ => EqB.refl _)))))
  · refine EqB.congr (namedF_at (k + 1)) (namedF_at k) ?_
    exact EqB.bindL (EqB.refl _) good_name lt_name (fun _ => EqB.rd (eqF_nil (by decide)) (fun h1 _ _ => EqB.rd (eqF_nil (by decide)) (fun _ _ _ => EqB.refl _) (fun _ _ => EqB.bind (ih.e (m - 1 - 1) 1 (by omega)) (g1.e 1) (fun _ => EqB.bind (ih.m (m - 1 - 1) _ (by omega)) (g1.m _) (fun _ => EqB.refl _)))) (fun _ _ => EqB.refl _))
  · refine EqB.congr (args1F_at (k + 1)) (args1F_at k) ?_
    exact EqB.bindL (EqB.refl _) (good_exp (by decide)) lt_exp (fun _ => EqB.bind (ih.e (m - 1) 1 (by omega)) (g1.e 1) (fun _ => EqB.refl _))
  · refine EqB.congr (args2F_at (k + 1)) (args2F_at k) ?_
    exact EqB.bindL (EqB.refl _) (good_exp (by decide)) lt_exp (fun _ => EqB.bind (ih.e (m - 1) 1 (by omega)) (g1.e 1) (fun _ => EqB.bind (EqB.refl _) (good_exp (by decide)) (fun _ => EqB.bind (ih.e (m - 1) 1 (by omega)) (g1.e 1) (fun _ => EqB.refl _))))
  · refine EqB.congr (braceF_at (k + 1)) (braceF_at k) ?_
    exact EqB.bindL (EqB.refl _) (good_exp (by decide)) lt_exp (fun _ => EqB.bind (ih.e (m - 1) 1 (by omega)) (g1.e 1) (fun _ => EqB.refl _))
  · refine EqB.congr (moreF_at (k + 1) acc) (moreF_at k acc) ?_
    exact EqB.rd (eqF_nil (by decide)) (fun h1 _ _ => EqB.bind (ih.e (m - 1) 1 (by omega)) (g1.e 1) (fun _ => ih.m (m - 1) _ (by omega))) (fun _ _ => EqB.refl _)
end
end Bk
namespace Bk
open Go Go.RowKit Go.Proofs
attribute [local irreducible] Go.Calls
def ListF (c : PCF) (w : World) (r : List Nd × PS) : Ending → World → Prop := fun e w' => ∃ a k, e = .returned (.slice a r.1.length k) ∧ rowSits (fun b => w.heap.size ≤ b ∧ b < w'.heap.size) w' r.1 a ∧ PPF c r.2 w' ∧ Fr (· = c.pb) w w'
theorem ListF.ret {c : PCF} {w : World} {r : List Nd × PS} {e : Ending} {w' : World} (h : ListF c w r e w') : ∃ v, e = .returned v := by
 obtain ⟨_, _, h, -⟩ := h
 exact ⟨_, h⟩
def ExprFC (c : PCF) (k : Nat) : Prop := ∀ (lv : Int) (σ : PS) (w : World), PPF c σ w → 4 * mS c.ts σ + 4 ≤ k → 1 ≤ lv → lv ≤ 9 →
 Calls Tryz.prog 93 #[.pointer (some ⟨c.pb, 0, none⟩), .int .i64 lv] w (TreeF c w (exprF c.ts c.n k lv σ))
def PrimFC (c : PCF) (k : Nat) : Prop := ∀ (σ : PS) (w : World), PPF c σ w → 4 * mS c.ts σ + 3 ≤ k →
 Calls Tryz.prog 109 #[.pointer (some ⟨c.pb, 0, none⟩)] w (TreeF c w (primF c.ts c.n k σ))
def IfFC (c : PCF) (k : Nat) : Prop := ∀ (σ : PS) (w : World), PPF c σ w → 1 ≤ mS c.ts σ → 4 * mS c.ts σ + 2 ≤ k →
 Calls Tryz.prog 121 #[.pointer (some ⟨c.pb, 0, none⟩)] w (TreeF c w (ifF c.ts c.n k σ))
def LetFC (c : PCF) (k : Nat) : Prop := ∀ (σ : PS) (w : World), PPF c σ w → 1 ≤ mS c.ts σ → 4 * mS c.ts σ + 2 ≤ k →
 Calls Tryz.prog 122 #[.pointer (some ⟨c.pb, 0, none⟩)] w (TreeF c w (letF c.ts c.n k σ))
def NamedFC (c : PCF) (k : Nat) : Prop := ∀ (σ : PS) (w : World), PPF c σ w → 4 * mS c.ts σ + 2 ≤ k →
 Calls Tryz.prog 124 #[.pointer (some ⟨c.pb, 0, none⟩)] w (TreeF c w (namedF c.ts c.n k σ))
def Args1FC (c : PCF) (k : Nat) : Prop := ∀ (σ : PS) (w : World), PPF c σ w → 4 * mS c.ts σ + 5 ≤ k →
 Calls Tryz.prog 120 #[.pointer (some ⟨c.pb, 0, none⟩), .int .i64 1] w (ListF c w (args1F c.ts c.n k σ))
def Args2FC (c : PCF) (k : Nat) : Prop := ∀ (σ : PS) (w : World), PPF c σ w → 4 * mS c.ts σ + 5 ≤ k →
 Calls Tryz.prog 120 #[.pointer (some ⟨c.pb, 0, none⟩), .int .i64 2] w (ListF c w (args2F c.ts c.n k σ))
def BraceFC (c : PCF) (k : Nat) : Prop := ∀ (σ : PS) (w : World), PPF c σ w → 4 * mS c.ts σ + 5 ≤ k →
 Calls Tryz.prog 62 #[.pointer (some ⟨c.pb, 0, none⟩)] w (TreeF c w (braceF c.ts c.n k σ))
structure ExprsFC (c : PCF) (k : Nat) : Prop where
 e : ExprFC c k
 p : PrimFC c k
 i : IfFC c k
 l : LetFC c k
 d : NamedFC c k
 a1 : Args1FC c k
 a2 : Args2FC c k
 b : BraceFC c k
theorem mS_exp {ts : List Tok} {n : Int} {σ : PS} {t : List UInt8} (h : σ.at_ ≤ ts.length) (ht : t ≠ []) : mS ts (expectP ts n σ t) + 1 ≤ mS ts σ ∨ mS ts (expectP ts n σ t) = 0 := mS_lt (expect_le h ht) expect_lt
theorem mS_nam {ts : List Tok} {n : Int} {σ : PS} (h : σ.at_ ≤ ts.length) : mS ts (nameP ts n σ).2 + 1 ≤ mS ts σ ∨ mS ts (nameP ts n σ).2 = 0 := mS_lt (name_le h) name_lt
theorem exprF_le' {ts : List Tok} {n : Int} {k : Nat} {lv : Int} {σ : PS} (h : σ.at_ ≤ ts.length) : Le ts σ (exprF ts n k lv σ).2 := ((good_F k).e lv).le ts n σ h
theorem braceF_le {ts : List Tok} {n : Int} {k : Nat} {σ : PS} (h : σ.at_ ≤ ts.length) : Le ts σ (braceF ts n k σ).2 := (good_F k).b.le ts n σ h
set_option maxRecDepth 100000 in
set_option maxHeartbeats 1000000 in
theorem block_fw (c : PCF) (k : Nat) (IH : ∀ j, j ≤ k → ExprsFC c j) : BraceFC c (k + 1) := by
 intro σ w hP hk; have X := Fr.refl (· = c.pb) w; have hpb := hP.pbB; have hB := hP.B; have m1 := mS_exp (n := c.n) (t := [123]) hP.at_ (by decide); rw [show braceF c.ts c.n (k + 1) σ = ((exprF c.ts c.n k 1 (expectP c.ts c.n σ [123])).1, expectP c.ts c.n (exprF c.ts c.n k 1 (expectP c.ts c.n σ [123])).2 [125]) from by rw [braceF]]; refine calls_in Tryz.func62 Tryz.ntmps62 rfl rfl ?_
 focus
  refine cS ?_; (refine lw_alloc' [_, _, _, _] zOk rfl rfl ?_; intro b1 w2 n3); have h5 := n3.blk; have x6 := n3.ext; have p7 := n3.pos; have z8 := n3.size; clear n3; replace hP := hP.ext x6; replace X := X.ext x6; clear x6; refine cN (cM rfl rfl ?_); refine cC (by kernel_rfl) rfl (fexpect_c _ _ _ _ (by assumption) (by decide)) rfl ?_; rintro _ w11 ⟨⟨⟩, ⟨h9, f10⟩⟩; have z12 := f10.size; replace h5 := h5.fr f10 (by omega); clear hP; replace X := X.fr f10 (by omega); clear f10; refine cN (cM rfl rfl ?_); refine cR (by kernel_rfl) rfl ((IH k (Nat.le_refl _)).e _ _ _ (by assumption) (by omega) (by decide) (by decide)) (fun _ _ h => h.ret) rfl ?_; rintro _ w18 ⟨a13, ⟨k14, ⟨⟨⟩, ⟨h15, ⟨h16, f17⟩⟩⟩⟩⟩; have z19 := f17.size; clear h9; replace h5 := h5.fr f17 (by omega); replace X := X.fr f17 (by omega); clear f17; (refine lw_alloc' [_, _, _, _] zOk rfl rfl ?_; intro b20 w21 n22); (refine lw_init' [_, _, _, _] tabOk rfl rfl rfl rfl rfl rfl n22 rfl ?_; clear n22; clear w21; intro w23 n22); have h24 := n22.blk; have x25 := n22.ext; have p26 := n22.pos; have z27 := n22.size; clear n22; replace h15 := Nd.sits.ext h15 x25; replace h16 := h16.ext x25; replace h5 := h5.ext x25; replace X := X.ext x25; clear x25; refine cN (cM rfl rfl ?_); refine cC (by kernel_rfl) rfl (fexpect_c _ _ _ _ (by assumption) (by decide)) rfl ?_; rintro _ w30 ⟨⟨⟩, ⟨h28, f29⟩⟩; have z31 := f29.size; replace h24 := h24.fr f29 (by omega); replace h15 := Nd.sits.fr h15 f29 (by omega); clear h16; replace h5 := h5.fr f29 (by omega)
  replace X := X.fr f29 (by omega); clear f29; refine cN (lw_loads_b' [_, _, _, _] tabOk rfl rfl rfl h24 rfl rfl rfl ?_); (refine lw_store' [_, _, _, _] [_, _, _, _] tabOk rfl rfl rfl rfl rfl rfl h5 rfl rfl ?_; intro w32 n33); have h36 := n33.blk; have f34 := n33.fr; have z35 := n33.size; clear n33 h5; replace h28 := h28.fr f34 (by omega); replace h24 := h24.fr f34 (by omega); replace h15 := Nd.sits.fr h15 f34 (by omega); replace X := X.fr f34 (by omega); clear f34; refine cT (cw_ret (qw_retc rfl tabOk rfl rfl rfl h36 rfl ?_)); rotate_left 1
 exact treeF_ret (Nd.sits.wide (by assumption) (fun b h => by omega)) (by assumption) X
set_option maxRecDepth 100000 in
set_option maxHeartbeats 1000000 in
theorem choice_fw (c : PCF) (k : Nat) (IH : ∀ j, j ≤ k → ExprsFC c j) : IfFC c (k + 1) := by
 intro σ w hP h1 hk; have X := Fr.refl (· = c.pb) w; have hpb := hP.pbB; have hB := hP.B; have m1 := mS_exp (n := c.n) (t := [105, 102]) hP.at_ (by decide); have l1 := expect_le (n := c.n) (t := [105, 102]) hP.at_ (by decide); rw [show ifF c.ts c.n (k + 1) σ = (.mk 83 0 [] [(exprF c.ts c.n k 1 (expectP c.ts c.n σ [105, 102])).1, (braceF c.ts c.n k (exprF c.ts c.n k 1 (expectP c.ts c.n σ [105, 102])).2).1, (braceF c.ts c.n k (expectP c.ts c.n (braceF c.ts c.n k (exprF c.ts c.n k 1 (expectP c.ts c.n σ [105, 102])).2).2 [101, 108, 115, 101])).1], (braceF c.ts c.n k (expectP c.ts c.n (braceF c.ts c.n k (exprF c.ts c.n k 1 (expectP c.ts c.n σ [105, 102])).2).2 [101, 108, 115, 101])).2) from by rw [ifF]]; have l2 := exprF_le' (n := c.n) (k := k) (lv := 1) l1.wf; have m2 := mS_le l2; have l3 := braceF_le (n := c.n) (k := k) l2.wf; have m3 := mS_le l3; have l4 := expect_le (n := c.n) (t := [101, 108, 115, 101]) l3.wf (by decide); have m4 := mS_le l4; refine calls_in Tryz.func121 Tryz.ntmps121 rfl rfl ?_
 focus
  refine cS ?_; (refine lw_alloc' [_, _, _, _] zOk rfl rfl ?_; intro b1 w2 n3); have h5 := n3.blk; have x6 := n3.ext; have p7 := n3.pos; have z8 := n3.size; clear n3; replace hP := hP.ext x6; replace X := X.ext x6; clear x6; refine cN (cM rfl rfl ?_); refine cC (by kernel_rfl) rfl (fexpect_c _ _ _ _ (by assumption) (by decide)) rfl ?_; rintro _ w11 ⟨⟨⟩, ⟨h9, f10⟩⟩; have z12 := f10.size; replace h5 := h5.fr f10 (by omega); clear hP; replace X := X.fr f10 (by omega); clear f10; refine cN (cM rfl rfl ?_); refine cR (by kernel_rfl) rfl ((IH k (Nat.le_refl _)).e _ _ _ (by assumption) (by omega) (by decide) (by decide)) (fun _ _ h => h.ret) rfl ?_; rintro _ w18 ⟨a13, ⟨k14, ⟨⟨⟩, ⟨h15, ⟨h16, f17⟩⟩⟩⟩⟩; have z19 := f17.size; clear h9; replace h5 := h5.fr f17 (by omega); replace X := X.fr f17 (by omega); clear f17; (refine lw_alloc' [_, _, _, _] zOk rfl rfl ?_; intro b20 w21 n22); (refine lw_init' [_, _, _, _] tabOk rfl rfl rfl rfl rfl rfl n22 rfl ?_; clear n22; clear w21; intro w23 n22); have h24 := n22.blk; have x25 := n22.ext; have p26 := n22.pos; have z27 := n22.size; clear n22; replace h15 := Nd.sits.ext h15 x25; replace h16 := h16.ext x25; replace h5 := h5.ext x25; replace X := X.ext x25; clear x25; refine cN (cM rfl rfl ?_); refine cR (by kernel_rfl) rfl ((IH k (Nat.le_refl _)).b _ _ (by assumption) (by omega)) (fun _ _ h => h.ret) rfl ?_; rintro _ w33 ⟨a28, ⟨k29, ⟨⟨⟩, ⟨h30, ⟨h31, f32⟩⟩⟩⟩⟩; have z34 := f32.size; replace h24 := h24.fr f32 (by omega); replace h15 := Nd.sits.fr h15 f32 (by omega)
  clear h16; replace h5 := h5.fr f32 (by omega); replace X := X.fr f32 (by omega); clear f32; (refine lw_alloc' [_, _, _, _] zOk rfl rfl ?_; intro b35 w36 n37); (refine lw_init' [_, _, _, _] tabOk rfl rfl rfl rfl rfl rfl n37 rfl ?_; clear n37; clear w36; intro w38 n37); have h39 := n37.blk; have x40 := n37.ext; have p41 := n37.pos; have z42 := n37.size; clear n37; replace h30 := Nd.sits.ext h30 x40; replace h31 := h31.ext x40; replace h24 := h24.ext x40; replace h15 := Nd.sits.ext h15 x40; replace h5 := h5.ext x40; replace X := X.ext x40; clear x40; refine cN (cM rfl rfl ?_); refine cC (by kernel_rfl) rfl (fexpect_c _ _ _ _ (by assumption) (by decide)) rfl ?_; rintro _ w45 ⟨⟨⟩, ⟨h43, f44⟩⟩; have z46 := f44.size; replace h39 := h39.fr f44 (by omega); replace h30 := Nd.sits.fr h30 f44 (by omega); clear h31; replace h24 := h24.fr f44 (by omega); replace h15 := Nd.sits.fr h15 f44 (by omega); replace h5 := h5.fr f44 (by omega); replace X := X.fr f44 (by omega); clear f44; refine cN (cM rfl rfl ?_); refine cR (by kernel_rfl) rfl ((IH k (Nat.le_refl _)).b _ _ (by assumption) (by omega)) (fun _ _ h => h.ret) rfl ?_; rintro _ w52 ⟨a47, ⟨k48, ⟨⟨⟩, ⟨h49, ⟨h50, f51⟩⟩⟩⟩⟩; have z53 := f51.size; clear h43; replace h39 := h39.fr f51 (by omega); replace h30 := Nd.sits.fr h30 f51 (by omega); replace h24 := h24.fr f51 (by omega); replace h15 := Nd.sits.fr h15 f51 (by omega); replace h5 := h5.fr f51 (by omega); replace X := X.fr f51 (by omega); clear f51; (refine lw_alloc' [_, _, _, _] zOk rfl rfl ?_; intro b54 w55 n56)
  (refine lw_init' [_, _, _, _] tabOk rfl rfl rfl rfl rfl rfl n56 rfl ?_; clear n56; clear w55; intro w57 n56); have h58 := n56.blk; have x59 := n56.ext; have p60 := n56.pos; have z61 := n56.size; clear n56; replace h49 := Nd.sits.ext h49 x59; replace h50 := h50.ext x59; replace h39 := h39.ext x59; replace h30 := Nd.sits.ext h30 x59; replace h24 := h24.ext x59; replace h15 := Nd.sits.ext h15 x59; replace h5 := h5.ext x59; replace X := X.ext x59; clear x59; refine cN (lw_loads_b' [_, _, _, _] tabOk rfl rfl rfl h24 rfl rfl rfl (lw_loads_b' [_, _, _, _] tabOk rfl rfl rfl h39 rfl rfl rfl (lw_loads_b' [_, _, _, _] tabOk rfl rfl rfl h58 rfl rfl rfl ?_))); (refine lw_does (does_slice' [_, _, _, _, _, _, _, _, _, _, _, _] tabOk zOk rfl rfl rfl rfl rfl rfl rfl rfl rfl) rfl ?_ (fun _ h => h); rintro _ w63 ⟨b62, rfl, n64, t65⟩); clear t65; have h66 := n64.blk; have x67 := n64.ext; have p68 := n64.pos; have z69 := n64.size; clear n64; replace h58 := h58.ext x67; replace h49 := Nd.sits.ext h49 x67; replace h50 := h50.ext x67; replace h39 := h39.ext x67; replace h30 := Nd.sits.ext h30 x67; replace h24 := h24.ext x67; replace h15 := Nd.sits.ext h15 x67; replace h5 := h5.ext x67; replace X := X.ext x67; clear x67; refine lw_pure (pur_build' [_, _, _, _] tabOk zOk rfl rfl rfl rfl) rfl ?_; (refine lw_store' [_, _, _, _] [_, _, _, _] tabOk rfl rfl rfl rfl rfl rfl h5 rfl rfl ?_; intro w70 n71); have h74 := n71.blk; have f72 := n71.fr; have z73 := n71.size; clear n71 h5; replace h66 := h66.fr f72 (by omega)
  replace h58 := h58.fr f72 (by omega); replace h49 := Nd.sits.fr h49 f72 (by omega); replace h50 := h50.fr f72 (by omega); replace h39 := h39.fr f72 (by omega); replace h30 := Nd.sits.fr h30 f72 (by omega); replace h24 := h24.fr f72 (by omega); replace h15 := Nd.sits.fr h15 f72 (by omega); replace X := X.fr f72 (by omega); clear f72; refine cT (cw_ret (qw_retc rfl tabOk rfl rfl rfl h74 rfl ?_)); rotate_left 1
 exact treeF_ret (sits_3 (by assumption) (by omega) (by assumption) (fun b h => by omega) (by assumption) (fun b h => by omega) (by assumption) (fun b h => by omega)) (by assumption) X
set_option maxRecDepth 100000 in
set_option maxHeartbeats 1000000 in
theorem binding_fw (c : PCF) (k : Nat) (IH : ∀ j, j ≤ k → ExprsFC c j) : LetFC c (k + 1) := by
 intro σ w hP h1 hk; have X := Fr.refl (· = c.pb) w; have hpb := hP.pbB; have hB := hP.B; have m1 := mS_exp (n := c.n) (t := [108, 111, 99, 97, 108]) hP.at_ (by decide); have l1 := expect_le (n := c.n) (t := [108, 111, 99, 97, 108]) hP.at_ (by decide); have l2 := name_le (n := c.n) l1.wf; have m2 := mS_le l2; have l3 := expect_le (n := c.n) (t := [61]) l2.wf (by decide); have m3 := mS_le l3; have l4 := exprF_le' (n := c.n) (k := k) (lv := 1) l3.wf; have m4 := mS_le l4; rw [show letF c.ts c.n (k + 1) σ = (.mk 84 0 (nameP c.ts c.n (expectP c.ts c.n σ [108, 111, 99, 97, 108])).1 [(exprF c.ts c.n k 1 (expectP c.ts c.n (nameP c.ts c.n (expectP c.ts c.n σ [108, 111, 99, 97, 108])).2 [61])).1, (braceF c.ts c.n k (exprF c.ts c.n k 1 (expectP c.ts c.n (nameP c.ts c.n (expectP c.ts c.n σ [108, 111, 99, 97, 108])).2 [61])).2).1], (braceF c.ts c.n k (exprF c.ts c.n k 1 (expectP c.ts c.n (nameP c.ts c.n (expectP c.ts c.n σ [108, 111, 99, 97, 108])).2 [61])).2).2) from by rw [letF]]; refine calls_in Tryz.func122 Tryz.ntmps122 rfl rfl ?_
 focus
  refine cS ?_; (refine lw_alloc' [_, _, _, _] zOk rfl rfl ?_; intro b1 w2 n3); have h5 := n3.blk; have x6 := n3.ext; have p7 := n3.pos; have z8 := n3.size; clear n3; replace hP := hP.ext x6; replace X := X.ext x6; clear x6; refine cN (cM rfl rfl ?_); refine cC (by kernel_rfl) rfl (fexpect_c _ _ _ _ (by assumption) (by decide)) rfl ?_; rintro _ w11 ⟨⟨⟩, ⟨h9, f10⟩⟩; have z12 := f10.size; replace h5 := h5.fr f10 (by omega); clear hP; replace X := X.fr f10 (by omega); clear f10; refine cN (cM rfl rfl ?_); refine cC (by kernel_rfl) rfl (fname_c _ _ _ (by assumption)) rfl ?_; rintro _ w15 ⟨⟨⟩, ⟨h13, f14⟩⟩; have z16 := f14.size; clear h9; replace h5 := h5.fr f14 (by omega); replace X := X.fr f14 (by omega); clear f14; refine cA rfl rfl (cN (cM rfl rfl ?_)); refine cC (by kernel_rfl) rfl (fexpect_c _ _ _ _ (by assumption) (by decide)) rfl ?_; rintro _ w19 ⟨⟨⟩, ⟨h17, f18⟩⟩; have z20 := f18.size; clear h13; replace h5 := h5.fr f18 (by omega); replace X := X.fr f18 (by omega); clear f18; refine cN (cM rfl rfl ?_); refine cR (by kernel_rfl) rfl ((IH k (Nat.le_refl _)).e _ _ _ (by assumption) (by omega) (by decide) (by decide)) (fun _ _ h => h.ret) rfl ?_; rintro _ w26 ⟨a21, ⟨k22, ⟨⟨⟩, ⟨h23, ⟨h24, f25⟩⟩⟩⟩⟩; have z27 := f25.size; clear h17; replace h5 := h5.fr f25 (by omega); replace X := X.fr f25 (by omega); clear f25; (refine lw_alloc' [_, _, _, _] zOk rfl rfl ?_; intro b28 w29 n30); (refine lw_init' [_, _, _, _] tabOk rfl rfl rfl rfl rfl rfl n30 rfl ?_; clear n30; clear w29; intro w31 n30)
  have h32 := n30.blk; have x33 := n30.ext; have p34 := n30.pos; have z35 := n30.size; clear n30; replace h23 := Nd.sits.ext h23 x33; replace h24 := h24.ext x33; replace h5 := h5.ext x33; replace X := X.ext x33; clear x33; refine cN (cM rfl rfl ?_); refine cR (by kernel_rfl) rfl ((IH k (Nat.le_refl _)).b _ _ (by assumption) (by omega)) (fun _ _ h => h.ret) rfl ?_; rintro _ w41 ⟨a36, ⟨k37, ⟨⟨⟩, ⟨h38, ⟨h39, f40⟩⟩⟩⟩⟩; have z42 := f40.size; replace h32 := h32.fr f40 (by omega); replace h23 := Nd.sits.fr h23 f40 (by omega); clear h24; replace h5 := h5.fr f40 (by omega); replace X := X.fr f40 (by omega); clear f40; (refine lw_alloc' [_, _, _, _] zOk rfl rfl ?_; intro b43 w44 n45); (refine lw_init' [_, _, _, _] tabOk rfl rfl rfl rfl rfl rfl n45 rfl ?_; clear n45; clear w44; intro w46 n45); have h47 := n45.blk; have x48 := n45.ext; have p49 := n45.pos; have z50 := n45.size; clear n45; replace h38 := Nd.sits.ext h38 x48; replace h39 := h39.ext x48; replace h32 := h32.ext x48; replace h23 := Nd.sits.ext h23 x48; replace h5 := h5.ext x48; replace X := X.ext x48; clear x48; refine cN (cM rfl rfl (lw_loads_b' [_, _, _, _] tabOk rfl rfl rfl h32 rfl rfl rfl (lw_loads_b' [_, _, _, _] tabOk rfl rfl rfl h47 rfl rfl rfl ?_))); (refine lw_does (does_slice' [_, _, _, _, _, _, _, _] tabOk zOk rfl rfl rfl rfl rfl rfl rfl rfl rfl) rfl ?_ (fun _ h => h); rintro _ w52 ⟨b51, rfl, n53, t54⟩); clear t54; have h55 := n53.blk; have x56 := n53.ext; have p57 := n53.pos; have z58 := n53.size; clear n53; replace h47 := h47.ext x56
  replace h38 := Nd.sits.ext h38 x56; replace h39 := h39.ext x56; replace h32 := h32.ext x56; replace h23 := Nd.sits.ext h23 x56; replace h5 := h5.ext x56; replace X := X.ext x56; clear x56; refine lw_pure (pur_build' [_, _, _, _] tabOk zOk rfl rfl rfl rfl) rfl ?_; (refine lw_store' [_, _, _, _] [_, _, _, _] tabOk rfl rfl rfl rfl rfl rfl h5 rfl rfl ?_; intro w59 n60); have h63 := n60.blk; have f61 := n60.fr; have z62 := n60.size; clear n60 h5; replace h55 := h55.fr f61 (by omega); replace h47 := h47.fr f61 (by omega); replace h38 := Nd.sits.fr h38 f61 (by omega); replace h39 := h39.fr f61 (by omega); replace h32 := h32.fr f61 (by omega); replace h23 := Nd.sits.fr h23 f61 (by omega); replace X := X.fr f61 (by omega); clear f61; refine cT (cw_ret (qw_retc rfl tabOk rfl rfl rfl h63 rfl ?_)); rotate_left 1
 exact treeF_ret (sits_2 (by assumption) (by omega) (by assumption) (fun b h => by omega) (by assumption) (fun b h => by omega)) (by assumption) X
end Bk
namespace Bk
open Go Go.RowKit Go.Proofs
attribute [local irreducible] Go.Calls
theorem kidsSitsF {S : Nat → Prop} {w : World} {k n : Int} {s : List UInt8} {l : List Nd} {a : Option Addr} (h : (Nd.mk k n s l).sits S w a) : rowSits S w l a := h
theorem listF_ret {c : PCF} {w w' : World} {r : List Nd × PS} {a : Option Addr} {m k : Nat} (hm : r.1.length = m) (hs : rowSits (w.heap.size ≤ ·) w' r.1 a) (hP : PPF c r.2 w') (X : Fr (· = c.pb) w w') : ListF c w r (.returned (.slice a m k)) w' := by
 subst hm; refine ⟨a, k, rfl, ?_, hP, X⟩; have := sits_lt2 (.mk 0 0 [] r.1) a (S := (w.heap.size ≤ ·)) hs
 exact this
set_option maxRecDepth 100000 in
set_option maxHeartbeats 1000000 in
theorem args1_fw (c : PCF) (k : Nat) (IH : ∀ j, j ≤ k → ExprsFC c j) : Args1FC c (k + 1) := by
 intro σ w hP hk; have X := Fr.refl (· = c.pb) w; have hpb := hP.pbB; have hB := hP.B; have m1 := mS_exp (n := c.n) (t := [40]) hP.at_ (by decide); rw [show args1F c.ts c.n (k + 1) σ = ([(exprF c.ts c.n k 1 (expectP c.ts c.n σ [40])).1], expectP c.ts c.n (exprF c.ts c.n k 1 (expectP c.ts c.n σ [40])).2 [41]) from by rw [args1F]]; refine calls_in Tryz.func120 Tryz.ntmps120 rfl rfl ?_
 focus
  refine cS (cA rfl rfl (cN (cM rfl rfl ?_))); refine cC (by kernel_rfl) rfl (fexpect_c _ _ _ _ (by assumption) (by decide)) rfl ?_; rintro _ w3 ⟨⟨⟩, ⟨h1, f2⟩⟩; have z4 := f2.size; clear hP; replace X := X.fr f2 (by omega); clear f2; refine cN (cM rfl rfl ?_); refine cR (by kernel_rfl) rfl ((IH k (Nat.le_refl _)).e _ _ _ (by assumption) (by omega) (by decide) (by decide)) (fun _ _ h => h.ret) rfl ?_; rintro _ w10 ⟨a5, ⟨k6, ⟨⟨⟩, ⟨h7, ⟨h8, f9⟩⟩⟩⟩⟩; have z11 := f9.size; clear h1; replace X := X.fr f9 (by omega); clear f9; (refine lw_does (does_slice' [_, _, _, _] tabOk zOk rfl rfl rfl rfl rfl rfl rfl rfl rfl) rfl ?_ (fun _ h => h); rintro _ w13 ⟨b12, rfl, n14, t15⟩); clear t15; have h16 := n14.blk; have x17 := n14.ext; have p18 := n14.pos; have z19 := n14.size; clear n14; replace h7 := Nd.sits.ext h7 x17; replace h8 := h8.ext x17; replace X := X.ext x17; clear x17; refine cA rfl rfl (cT (cw_seq (cw_block ?_))); rotate_left 1
 refine cw_loop (ι := Unit) (fun _ => [(0, .pointer (some ⟨c.pb, 0, none⟩)), (1, .int .i64 1), (5, .slice (some ⟨b12, 0, none⟩) 1 1)]) (fun _ w' => w' = w13) (fun _ => 0) () (by (refine sub_cons rfl ?_; refine sub_cons rfl ?_; refine sub_cons rfl ?_; exact sub_nil)) rfl ?_; rintro _ w14 rfl
 focus
  refine cw_seq (cS (cM rfl rfl (lw_pure (pur_len_slice tabOk rfl rfl) rfl (cM rfl rfl (lw_pure (pur_lss rfl rfl) rfl (cT ?_)))))); refine cw_no rfl (by decide) ?_; refine cw_exit (qw_then_exit (qw_then_exit (qw_block_exit (qw_then (cS (cM rfl rfl ?_)))))); refine cC (by kernel_rfl) rfl (fexpect_c _ _ _ _ (by assumption) (by decide)) rfl ?_; rintro _ wa3 ⟨⟨⟩, ⟨ha1, fa2⟩⟩; have za4 := fa2.size; replace h16 := h16.fr fa2 (by omega); replace h7 := Nd.sits.fr h7 fa2 (by omega); clear h8; replace X := X.fr fa2 (by omega); clear fa2; refine cN (cM rfl rfl (cA rfl rfl (cT (cw_ret (qw_ret1 rfl rfl ?_))))); rotate_left 1
 exact listF_ret rfl (rowSits_of (by omega) [_] 0 (fun i x hi => by
  match i, hi with
  | 0, hi =>
   simp only [List.getElem?_cons_zero, Option.some.injEq] at hi; subst hi
   exact ⟨_, _, by simpa using Blk.row (by assumption), Nd.sits.wide (by assumption) (fun b h => by omega)⟩)) (by assumption) X
set_option maxRecDepth 100000 in
set_option maxHeartbeats 1000000 in
theorem args2_fw (c : PCF) (k : Nat) (IH : ∀ j, j ≤ k → ExprsFC c j) : Args2FC c (k + 1) := by
 intro σ w hP hk; have X := Fr.refl (· = c.pb) w; have hpb := hP.pbB; have hB := hP.B; have m1 := mS_exp (n := c.n) (t := [40]) hP.at_ (by decide); have l1 := expect_le (n := c.n) (t := [40]) hP.at_ (by decide); have l2 := exprF_le' (n := c.n) (k := k) (lv := 1) l1.wf; have m2 := mS_le l2; have l3 := expect_le (n := c.n) (t := [44]) l2.wf (by decide); have m3 := mS_le l3; rw [show args2F c.ts c.n (k + 1) σ = ([(exprF c.ts c.n k 1 (expectP c.ts c.n σ [40])).1, (exprF c.ts c.n k 1 (expectP c.ts c.n (exprF c.ts c.n k 1 (expectP c.ts c.n σ [40])).2 [44])).1], expectP c.ts c.n (exprF c.ts c.n k 1 (expectP c.ts c.n (exprF c.ts c.n k 1 (expectP c.ts c.n σ [40])).2 [44])).2 [41]) from by rw [args2F]]; clear l1 l2 l3; refine calls_in Tryz.func120 Tryz.ntmps120 rfl rfl ?_
 focus
  refine cS (cA rfl rfl (cN (cM rfl rfl ?_))); refine cC (by kernel_rfl) rfl (fexpect_c _ _ _ _ (by assumption) (by decide)) rfl ?_; rintro _ w3 ⟨⟨⟩, ⟨h1, f2⟩⟩; have z4 := f2.size; clear hP; replace X := X.fr f2 (by omega); clear f2; refine cN (cM rfl rfl ?_); refine cR (by kernel_rfl) rfl ((IH k (Nat.le_refl _)).e _ _ _ (by assumption) (by omega) (by decide) (by decide)) (fun _ _ h => h.ret) rfl ?_; rintro _ w10 ⟨a5, ⟨k6, ⟨⟨⟩, ⟨h7, ⟨h8, f9⟩⟩⟩⟩⟩; have z11 := f9.size; clear h1; replace X := X.fr f9 (by omega); clear f9; (refine lw_does (does_slice' [_, _, _, _] tabOk zOk rfl rfl rfl rfl rfl rfl rfl rfl rfl) rfl ?_ (fun _ h => h); rintro _ w13 ⟨b12, rfl, n14, t15⟩); have t16 : TB _ _ _ _ := t15; clear t15; have x17 := n14.ext; have p18 := n14.pos; have z19 := n14.size; clear n14; replace h7 := Nd.sits.ext h7 x17; replace h8 := h8.ext x17; replace X := X.ext x17; clear x17; refine cA rfl rfl (cT (cw_seq (cw_block ?_))); rotate_left 1
 refine cw_loop (ι := Bool × Option Addr × Nat) (fun x => [(0, .pointer (some ⟨c.pb, 0, none⟩)), (1, .int .i64 2), (5, .slice x.2.1 (match x.1 with | true => 2 | false => 1) x.2.2)])
  (fun x w' => match x.1 with | false => w' = w13 ∧ x.2 = (some ⟨b12, 0, none⟩, 1) | true => rowSits (w.heap.size ≤ ·) w' [(exprF c.ts c.n k 1 (expectP c.ts c.n σ [40])).1, (exprF c.ts c.n k 1 (expectP c.ts c.n (exprF c.ts c.n k 1 (expectP c.ts c.n σ [40])).2 [44])).1] x.2.1 ∧ PPF c (exprF c.ts c.n k 1 (expectP c.ts c.n (exprF c.ts c.n k 1 (expectP c.ts c.n σ [40])).2 [44])).2 w' ∧ Fr (· = c.pb) w w' ∧ w.heap.size ≤ w'.heap.size)
  (fun x => match x.1 with | false => 1 | true => 0) (false, some ⟨b12, 0, none⟩, 1) (by (refine sub_cons rfl ?_; refine sub_cons rfl ?_; refine sub_cons rfl ?_; exact sub_nil)) ⟨rfl, rfl⟩ ?_
 rintro ⟨q, qa, qk⟩ w14 hI
 cases q with
 | false =>
  obtain ⟨rfl, hq⟩ := hI; simp only [Prod.mk.injEq] at hq; obtain ⟨rfl, rfl⟩ := hq; have hown : OwnQ ndShape w14 (w.heap.size ≤ ·) w.heap.size 43 (.slice (some ⟨b12, 0, none⟩) 1 1) [(exprF c.ts c.n k 1 (expectP c.ts c.n σ [40])).1] := OwnQ.lit t16 (by omega) ⟨_, _, rfl, Nd.sits.wide h7 (fun b h => ⟨by omega, by omega⟩)⟩; clear t16 h7; refine CW.sub (m := [(0, .pointer (some ⟨c.pb, 0, none⟩)), (1, .int .i64 2), (5, .slice (some ⟨b12, 0, none⟩) 1 1)]) ?_ (by (refine sub_cons rfl ?_; refine sub_cons rfl ?_; refine sub_cons rfl ?_; exact sub_nil))
  focus
   refine cw_seq (cS (cM rfl rfl (lw_pure (pur_len_slice tabOk rfl rfl) rfl (cM rfl rfl (lw_pure (pur_lss rfl rfl) rfl (cT ?_)))))); refine cw_yes rfl (by decide) ?_; refine cw_skip (qw_then (cw_block (cS (cM rfl rfl ?_)))); refine cC (by kernel_rfl) rfl (fexpect_c _ _ _ _ (by assumption) (by decide)) rfl ?_; rintro _ wa3 ⟨⟨⟩, ⟨ha1, fa2⟩⟩; have za4 := fa2.size; clear h8; replace X := X.fr fa2 (by omega); replace hown := OwnQ.fr hown fa2 (fun k hk => ⟨fun h => by (try dsimp only at hk h); omega, fun e => by have := OwnQ.ge (by assumption) e; (try dsimp only at hk); omega⟩); clear fa2; refine cT (cw_region (cM rfl rfl (cM rfl rfl ?_))); refine cR (by kernel_rfl) rfl ((IH k (Nat.le_refl _)).e _ _ _ (by assumption) (by omega) (by decide) (by decide)) (fun _ _ h => h.ret) rfl ?_; rintro _ wa10 ⟨aa5, ⟨ka6, ⟨⟨⟩, ⟨ha7, ⟨ha8, fa9⟩⟩⟩⟩⟩; have za11 := fa9.size; clear ha1; replace X := X.fr fa9 (by omega); replace hown := OwnQ.fr hown fa9 (fun k hk => ⟨fun h => by (try dsimp only at hk h); omega, fun e => by have := OwnQ.ge (by assumption) e; (try dsimp only at hk); omega⟩); clear fa9; (refine lw_does (does_slice' [_, _, _, _] tabOk zOk rfl rfl rfl rfl rfl rfl rfl rfl rfl) rfl ?_ (fun _ h => h); rintro _ wa13 ⟨ba12, rfl, na14, ta15⟩); clear ta15; have ha16 := na14.blk; have xa17 := na14.ext; have pa18 := na14.pos; have za19 := na14.size; clear na14; replace ha7 := Nd.sits.ext ha7 xa17; replace ha8 := ha8.ext xa17; replace X := X.ext xa17; replace hown := hown.ext xa17; clear xa17; refine lw_does (does_appendQ (R := fun b => w.heap.size ≤ b) (sh := ndShape) (z := (exprF c.ts c.n k 1 (expectP c.ts c.n (exprF c.ts c.n k 1 (expectP c.ts c.n σ [40])).2 [44])).1) tabOk zOk rfl rfl rfl rfl (by kernel_rfl) rfl rfl rfl (by assumption) (fun _ h => by exact h) (Blk.row (by assumption)) ⟨_, _, rfl, Nd.sits.wide (by assumption) (fun b h => ⟨by omega, fun e => by simp only [Value.ownBlock, Option.some.injEq] at e; omega⟩)⟩ (by simp) (by omega)) rfl ?_ (fun _ h => h)
   rintro _ wa26 ⟨ga20, ⟨capa21, ⟨rfl, ⟨ha22, ⟨ha23, ⟨ha24, fa25⟩⟩⟩⟩⟩⟩; have za27 := fa25.size; clear ha16; replace ha7 := Nd.sits.fr ha7 fa25 (fun b hb hT => by simp only [Go.Value.ownBlock, Option.some.injEq] at hT; (try dsimp only at hb); omega); replace ha8 := PPF.fr ha8 fa25 (fun k hk => by simp only [Go.Value.ownBlock, Option.some.injEq] at hk; omega); replace X := Fr.fr X fa25 (fun k hk => by simp only [Go.Value.ownBlock, Option.some.injEq] at hk; omega); clear hown fa25; refine cA rfl rfl (lw_nil (qw_block_norm ?_)); rotate_left 1
  exact qw_round (ι := Bool × Option Addr × Nat) (x := (false, some ⟨b12, 0, none⟩, 1)) (true, some ⟨_, 0, none⟩, _) (by (refine sub_cons rfl ?_; refine sub_cons rfl ?_; refine sub_cons rfl ?_; exact sub_nil)) ⟨OwnQ.rowsits (by assumption) (fun b h => h) (fun b h => h), by assumption, X, by omega⟩ (by simp only; omega)
 | true =>
  obtain ⟨hs, hP2, X2, hz⟩ := hI; clear X h8 t16 h7; refine CW.sub (m := [(0, .pointer (some ⟨c.pb, 0, none⟩)), (1, .int .i64 2), (5, .slice qa 2 qk)]) ?_ (by (refine sub_cons rfl ?_; refine sub_cons rfl ?_; refine sub_cons rfl ?_; exact sub_nil)); have hs2 : (Nd.mk 0 0 [] [(exprF c.ts c.n k 1 (expectP c.ts c.n σ [40])).1, (exprF c.ts c.n k 1 (expectP c.ts c.n (exprF c.ts c.n k 1 (expectP c.ts c.n σ [40])).2 [44])).1]).sits (w.heap.size ≤ ·) w14 qa := sits_mk hs; clear hs
  focus
   refine cw_seq (cS (cM rfl rfl (lw_pure (pur_len_slice tabOk rfl rfl) rfl (cM rfl rfl (lw_pure (pur_lss rfl rfl) rfl (cT ?_)))))); refine cw_no rfl (by decide) ?_; refine cw_exit (qw_then_exit (qw_then_exit (qw_block_exit (qw_then (cS (cM rfl rfl ?_)))))); refine cC (by kernel_rfl) rfl (fexpect_c _ _ _ _ (by assumption) (by decide)) rfl ?_; rintro _ wb3 ⟨⟨⟩, ⟨hb1, fb2⟩⟩; have zb4 := fb2.size; clear hP2; replace X2 := X2.fr fb2 (by omega); replace hs2 := Nd.sits.fr hs2 fb2 (by omega); clear fb2; refine cN (cM rfl rfl (cA rfl rfl (cT (cw_ret (qw_ret1 rfl rfl ?_))))); rotate_left 1
  exact listF_ret rfl (kidsSitsF (by assumption)) (by assumption) X2
end Bk
namespace Bk
open Go Go.RowKit Go.Proofs
attribute [local irreducible] Go.Calls
theorem mS_len {ts : List Tok} {σ : PS} : mS ts σ ≤ ts.length := by unfold mS; split <;> omega
set_option maxRecDepth 100000 in
set_option maxHeartbeats 2000000 in
theorem named_fw (c : PCF) (k : Nat) (IH : ∀ j, j ≤ k → ExprsFC c j) : NamedFC c (k + 1) := by
 intro σ w hP hk; have X := Fr.refl (· = c.pb) w; have hpb := hP.pbB; have hB := hP.B; have hlen := hP.len; have l1 := name_le (n := c.n) hP.at_; have m1 := mS_nam (n := c.n) hP.at_
 cases h1 : hasP c.ts (nameP c.ts c.n σ).2 [40]
 case false =>
  rw [show namedF c.ts c.n (k + 1) σ = (.mk 81 0 (nameP c.ts c.n σ).1 [], (nameP c.ts c.n σ).2) from by rw [namedF]; simp [h1]]; refine calls_in Tryz.func124 Tryz.ntmps124 rfl rfl ?_
  focus
   refine cS ?_; (refine lw_alloc' [_, _, _, _] zOk rfl rfl ?_; intro b1 w2 n3); have h5 := n3.blk; have x6 := n3.ext; have p7 := n3.pos; have z8 := n3.size; clear n3; replace hP := hP.ext x6; replace X := X.ext x6; clear x6; refine cN (cM rfl rfl ?_); refine cC (by kernel_rfl) rfl (fname_c _ _ _ (by assumption)) rfl ?_; rintro _ w11 ⟨⟨⟩, ⟨h9, f10⟩⟩; have z12 := f10.size; replace h5 := h5.fr f10 (by omega); clear hP; replace X := X.fr f10 (by omega); clear f10; refine cA rfl rfl (cT (cw_seq (cS (cM rfl rfl ?_)))); refine cC (by kernel_rfl) rfl (faccept_f _ _ _ _ (by assumption) (by decide) (by assumption)) rfl ?_; rintro _ w15 ⟨⟨⟩, ⟨h13, f14⟩⟩; have z16 := f14.size; clear h9; replace h5 := h5.fr f14 (by omega); replace X := X.fr f14 (by omega); clear f14; refine lw_pure (pur_not rfl) rfl (cT (cw_cond_t rfl (cS (cM rfl rfl (lw_pure (pur_build' [_, _, _, _] tabOk zOk rfl rfl rfl rfl) rfl ?_))))); (refine lw_store' [_, _, _, _] [_, _, _, _] tabOk rfl rfl rfl rfl rfl rfl h5 rfl rfl ?_; intro w17 n18); have h21 := n18.blk; have f19 := n18.fr; have z20 := n18.size; clear n18 h5; replace h13 := h13.fr f19 (by omega); replace X := X.fr f19 (by omega); clear f19; refine cT (cw_ret (qw_then_ret (qw_retc rfl tabOk rfl rfl rfl h21 rfl ?_))); rotate_left 1
  exact treeF_ret sits_nil (by assumption) X
 have i1 := has_in l1.wf h1 (by decide); have l2 := next_le i1; have m2 := mS_next i1
 cases h2 : hasP c.ts (nextP (nameP c.ts c.n σ).2) [41]
 case true =>
  rw [show namedF c.ts c.n (k + 1) σ = (.mk 85 0 (nameP c.ts c.n σ).1 [], nextP (nextP (nameP c.ts c.n σ).2)) from by rw [namedF]; simp [h1, h2]]; refine calls_in Tryz.func124 Tryz.ntmps124 rfl rfl ?_
  focus
   refine cS ?_; (refine lw_alloc' [_, _, _, _] zOk rfl rfl ?_; intro ba1 wa2 na3); have ha5 := na3.blk; have xa6 := na3.ext; have pa7 := na3.pos; have za8 := na3.size; clear na3; replace hP := hP.ext xa6; replace X := X.ext xa6; clear xa6; refine cN (cM rfl rfl ?_); refine cC (by kernel_rfl) rfl (fname_c _ _ _ (by assumption)) rfl ?_; rintro _ wa11 ⟨⟨⟩, ⟨ha9, fa10⟩⟩; have za12 := fa10.size; replace ha5 := ha5.fr fa10 (by omega); clear hP; replace X := X.fr fa10 (by omega); clear fa10; refine cA rfl rfl (cT (cw_seq (cS (cM rfl rfl ?_)))); refine cC (by kernel_rfl) rfl (faccept_t _ _ _ _ (by assumption) (by decide) (by assumption)) rfl ?_; rintro _ wa15 ⟨⟨⟩, ⟨ha13, fa14⟩⟩; have za16 := fa14.size; clear ha9; replace ha5 := ha5.fr fa14 (by omega); replace X := X.fr fa14 (by omega); clear fa14; refine lw_pure (pur_not rfl) rfl (cT (cw_cond_f rfl (cw_skip (qw_then (cS (cM rfl rfl (lw_pure (pur_build' [_, _, _, _] tabOk zOk rfl rfl rfl rfl) rfl ?_))))))); (refine lw_alloc' [_, _, _, _] zOk rfl rfl ?_; intro ba17 wa18 na19); (refine lw_init' [_, _, _, _] tabOk rfl rfl rfl rfl rfl rfl na19 rfl ?_; clear na19; clear wa18; intro wa20 na19); have ha21 := na19.blk; have xa22 := na19.ext; have pa23 := na19.pos; have za24 := na19.size; clear na19; replace ha13 := ha13.ext xa22; replace ha5 := ha5.ext xa22; replace X := X.ext xa22; clear xa22; refine cT (cw_seq (cS (cM rfl rfl ?_))); refine cC (by kernel_rfl) rfl (faccept_t _ _ _ _ (by assumption) (by decide) (by assumption)) rfl ?_; rintro _ wa27 ⟨⟨⟩, ⟨ha25, fa26⟩⟩
   have za28 := fa26.size; replace ha21 := ha21.fr fa26 (by omega); clear ha13; replace ha5 := ha5.fr fa26 (by omega); replace X := X.fr fa26 (by omega); clear fa26; refine cT (cw_cond_t rfl (cS (lw_loads_b' [_, _, _, _] tabOk rfl rfl rfl ha21 rfl rfl rfl ?_))); (refine lw_store' [_, _, _, _] [_, _, _, _] tabOk rfl rfl rfl rfl rfl rfl ha5 rfl rfl ?_; intro wa29 na30); have ha33 := na30.blk; have fa31 := na30.fr; have za32 := na30.size; clear na30 ha5; replace ha25 := ha25.fr fa31 (by omega); replace ha21 := ha21.fr fa31 (by omega); replace X := X.fr fa31 (by omega); clear fa31; refine cT (cw_ret (qw_then_ret (qw_retc rfl tabOk rfl rfl rfl ha33 rfl ?_))); rotate_left 1
  exact treeF_ret sits_nil (by assumption) X
 rw [show namedF c.ts c.n (k + 1) σ = (.mk 85 0 (nameP c.ts c.n σ).1 (moreF c.ts c.n k [(exprF c.ts c.n k 1 (nextP (nameP c.ts c.n σ).2)).1] (exprF c.ts c.n k 1 (nextP (nameP c.ts c.n σ).2)).2).1, expectP c.ts c.n (moreF c.ts c.n k [(exprF c.ts c.n k 1 (nextP (nameP c.ts c.n σ).2)).1] (exprF c.ts c.n k 1 (nextP (nameP c.ts c.n σ).2)).2).2 [41]) from by rw [namedF]; simp [h1, h2]]; have l3 := exprF_le' (n := c.n) (k := k) (lv := 1) l2.wf; have m3 := mS_le l3; have m4 := mS_len (ts := c.ts) (σ := σ); clear l1 l2 l3 i1; refine calls_in Tryz.func124 Tryz.ntmps124 rfl rfl ?_
 focus
  refine cS ?_; (refine lw_alloc' [_, _, _, _] zOk rfl rfl ?_; intro bb1 wb2 nb3); have hb5 := nb3.blk; have xb6 := nb3.ext; have pb7 := nb3.pos; have zb8 := nb3.size; clear nb3; replace hP := hP.ext xb6; replace X := X.ext xb6; clear xb6; refine cN (cM rfl rfl ?_); refine cC (by kernel_rfl) rfl (fname_c _ _ _ (by assumption)) rfl ?_; rintro _ wb11 ⟨⟨⟩, ⟨hb9, fb10⟩⟩; have zb12 := fb10.size; replace hb5 := hb5.fr fb10 (by omega); clear hP; replace X := X.fr fb10 (by omega); clear fb10; refine cA rfl rfl (cT (cw_seq (cS (cM rfl rfl ?_)))); refine cC (by kernel_rfl) rfl (faccept_t _ _ _ _ (by assumption) (by decide) (by assumption)) rfl ?_; rintro _ wb15 ⟨⟨⟩, ⟨hb13, fb14⟩⟩; have zb16 := fb14.size; clear hb9; replace hb5 := hb5.fr fb14 (by omega); replace X := X.fr fb14 (by omega); clear fb14; refine lw_pure (pur_not rfl) rfl (cT (cw_cond_f rfl (cw_skip (qw_then (cS (cM rfl rfl (lw_pure (pur_build' [_, _, _, _] tabOk zOk rfl rfl rfl rfl) rfl ?_))))))); (refine lw_alloc' [_, _, _, _] zOk rfl rfl ?_; intro bb17 wb18 nb19); (refine lw_init' [_, _, _, _] tabOk rfl rfl rfl rfl rfl rfl nb19 rfl ?_; clear nb19; clear wb18; intro wb20 nb19); have hb21 := nb19.blk; have xb22 := nb19.ext; have pb23 := nb19.pos; have zb24 := nb19.size; clear nb19; replace hb13 := hb13.ext xb22; replace hb5 := hb5.ext xb22; replace X := X.ext xb22; clear xb22; refine cT (cw_seq (cS (cM rfl rfl ?_))); refine cC (by kernel_rfl) rfl (faccept_f _ _ _ _ (by assumption) (by decide) (by assumption)) rfl ?_; rintro _ wb27 ⟨⟨⟩, ⟨hb25, fb26⟩⟩
  have zb28 := fb26.size; replace hb21 := hb21.fr fb26 (by omega); clear hb13; replace hb5 := hb5.fr fb26 (by omega); replace X := X.fr fb26 (by omega); clear fb26; refine cT (cw_cond_f rfl (cw_skip (qw_then ?_))); rotate_left 1
 have hown : OwnQ ndShape wb27 (bb17 < ·) (bb17 + 1) 43 (.slice none 0 0) [] := OwnQ.nil
 focus
  refine cw_seq ?_; (refine cw_tdraw (fun wz => Fr (· = c.pb) wb27 wz) 5 (.pure 0 (.pure 1 (.pure 2 (.fork 3 (.fork 4 .tail .none) .none)))) mixed (by kernel_rfl) (panicOk_then panicOk_body) ?_; intro wc1 xc2 _); have qsc3 : (fun wz => Fr (· = c.pb) wb27 wz) wc1 := Fr.of_ext xc2; simp only at qsc3; have d_hb25 := hb25; have d_hb21 := hb21; have d_hb5 := hb5; have d_hown := hown; have zc4 := xc2.size; replace hb25 := hb25.ext xc2; replace hb21 := hb21.ext xc2; replace hb5 := hb5.ext xc2; replace X := X.ext xc2; replace hown := hown.ext xc2; clear xc2; refine ⟨qsc3, ?_⟩; refine tw_pure rfl (pur_fieldAddr tabOk rfl rfl rfl) rfl ?_; refine tw_pure rfl (pur_load tabOk rfl rfl rfl (fun wz hz => Blk.cell (Blk.fr d_hb21 hz (by first | omega | (dsimp only; omega))) rfl)) rfl ?_; refine tw_pure rfl (pur_move rfl) rfl ?_; refine tw_does rfl (does_call (by kernel_rfl) rfl ((IH k (Nat.le_refl _)).e _ _ _ (by assumption) (by omega) (by decide) (by decide)) (fun _ _ h => h.ret)) rfl ?_ (fun _ h => h) tw_none; rintro _ wc11 ⟨ac6, ⟨kc7, ⟨⟨⟩, ⟨hc8, ⟨hc9, fc10⟩⟩⟩⟩⟩; have zc12 := fc10.size; replace qsc3 := qsc3.fr fc10 (by omega); clear hb25; replace hb21 := hb21.fr fc10 (by omega); replace hb5 := hb5.fr fc10 (by omega); replace X := X.fr fc10 (by omega); replace hown := OwnQ.fr hown fc10 (fun k hk => ⟨fun h => by (try dsimp only at hk h); omega, fun e => by have := OwnQ.ge (by assumption) e; (try dsimp only at hk); omega⟩); clear fc10; refine ⟨qsc3, ?_⟩; (refine tw_does rfl (does_slice' [_, _, _, _] tabOk zOk rfl rfl rfl rfl rfl rfl rfl rfl rfl) rfl ?_ (fun _ h => h) tw_none; rintro _ wc15 ⟨bc14, rfl, nc16, tc17⟩)
  clear tc17; have hc18 := nc16.blk; have xc19 := nc16.ext; have pc20 := nc16.pos; have zc21 := nc16.size; clear nc16; replace hc8 := Nd.sits.ext hc8 xc19; replace hc9 := hc9.ext xc19; replace qsc3 := qsc3.ext xc19; replace hb21 := hb21.ext xc19; replace hb5 := hb5.ext xc19; replace X := X.ext xc19; replace hown := hown.ext xc19; clear xc19; refine ⟨qsc3, ?_⟩; clear d_hb25 d_hb21 d_hb5 d_hown qsc3; refine tw_tail rfl ?_; refine lw_does (does_appendQ (R := (bb17 < ·)) (sh := ndShape) tabOk zOk rfl rfl rfl rfl (by kernel_rfl) rfl rfl rfl (by assumption) (fun _ h => by exact h) (Blk.row (by assumption)) ⟨_, _, rfl, Nd.sits.wide (by assumption) (fun b h => ⟨by omega, fun e => by simp [Value.ownBlock] at e⟩)⟩ (by simp) (by omega)) rfl ?_ (fun _ h => h); rintro _ wc28 ⟨gc22, ⟨capc23, ⟨rfl, ⟨hc24, ⟨hc25, ⟨hc26, fc27⟩⟩⟩⟩⟩⟩; have zc29 := fc27.size; replace hc18 := Blk.fr hc18 fc27 (fun e => (Option.some_ne_none _ e.symm).elim); replace hc8 := Nd.sits.fr hc8 fc27 (fun b hb hT => (Option.some_ne_none _ hT.symm).elim); replace hc9 := PPF.fr hc9 fc27 (fun k hk => (Option.some_ne_none _ hk.symm).elim); replace hb21 := Blk.fr hb21 fc27 (fun e => (Option.some_ne_none _ e.symm).elim); replace hb5 := Blk.fr hb5 fc27 (fun e => (Option.some_ne_none _ e.symm).elim); replace X := Fr.fr X fc27 (fun k hk => (Option.some_ne_none _ hk.symm).elim); replace hown := OwnQ.fr hown fc27 (fun k hk => (Option.some_ne_none _ hk.symm).elim); clear fc27; refine lw_pure (pur_fieldAddr tabOk rfl rfl rfl) rfl ?_; (refine lw_store' [_] [_, _, _, _] tabOk rfl rfl rfl rfl rfl rfl hb21 rfl rfl ?_; intro wc30 nc31)
  have hc34 := nc31.blk; have fc32 := nc31.fr; have zc33 := nc31.size; clear nc31 hb21; replace hc24 := OwnQ.fr hc24 fc32 (fun k hk => ⟨fun h => by (try dsimp only at hk h); omega, fun e => by have := OwnQ.ge (by assumption) e; (try dsimp only at hk); omega⟩); replace hc18 := hc18.fr fc32 (by omega); replace hc8 := Nd.sits.fr hc8 fc32 (by omega); replace hc9 := hc9.fr fc32 (by omega); replace hb5 := hb5.fr fc32 (by omega); replace X := X.fr fc32 (by omega); replace hown := OwnQ.fr hown fc32 (fun k hk => ⟨fun h => by (try dsimp only at hk h); omega, fun e => by have := OwnQ.ge (by assumption) e; (try dsimp only at hk); omega⟩); clear fc32; refine cT (cw_seq (cw_block ?_)); rotate_left 1
 clear hown hc25 hc18 hc8 h1 h2
 generalize hE0 : exprF c.ts c.n k 1 (nextP (nameP c.ts c.n σ).2) = r0 at *
 generalize (nameP c.ts c.n σ).1 = nm at *
 have hf0 : 4 * mS c.ts r0.2 + 1 ≤ k := by omega
 have ha0 : 1 + mS c.ts r0.2 ≤ 1000001 := by omega
 refine cw_loop (ι := Nat × List Nd × Option Addr × Nat × PS) (fun x => [(0, .pointer (some ⟨c.pb, 0, none⟩)), (2, .pointer (some ⟨bb1, 0, none⟩)), (4, .pointer (some ⟨bb17, 0, none⟩))])
  (fun x w' => PPF c x.2.2.2.2 w' ∧ Blk w' bb17 [.int .u8 85, .int .i64 0, str nm, .slice x.2.2.1 x.2.1.length x.2.2.2.1] ∧ OwnQ ndShape w' (bb17 < ·) (bb17 + 1) 43 (.slice x.2.2.1 x.2.1.length x.2.2.2.1) x.2.1 ∧ Blk w' bb1 [.int .u8 0, .int .i64 0, .string ⟨#[]⟩, .slice none 0 0] ∧ Fr (· = c.pb) w w' ∧ wc30.heap.size ≤ w'.heap.size ∧
   moreF c.ts c.n k [r0.1] r0.2 = moreF c.ts c.n x.1 x.2.1 x.2.2.2.2 ∧ 4 * mS c.ts x.2.2.2.2 + 1 ≤ x.1 ∧ x.1 ≤ k ∧ x.2.1.length + mS c.ts x.2.2.2.2 ≤ 1000001) (fun x => x.1) (k, [r0.1], some ⟨gc22, 0, none⟩, capc23, r0.2) (by (refine sub_cons rfl ?_; refine sub_cons rfl ?_; refine sub_cons rfl ?_; exact sub_nil))
  ⟨hc9, hc34, hc24, hb5, X, Nat.le_refl _, rfl, hf0, Nat.le_refl _, by simpa using ha0⟩ ?_
 clear hc9 hc34 hc24 hb5 X; rintro ⟨j, acc, a, cap, σ'⟩ w1 ⟨hP, hbn, hown, hbr, X, hz, he, hfj, hjk, hacc⟩; simp only at hP hbn hown he hfj hjk hacc; rw [he]; clear he hf0 ha0; obtain ⟨j, rfl⟩ : ∃ i, j = i + 1 := ⟨j - 1, by omega⟩
 have hob : ∀ g, (Value.slice a acc.length cap).ownBlock = some g → bb17 + 1 ≤ g ∧ g < w1.heap.size := fun g h => ⟨hown.ge h, hown.lt h⟩
 cases hh : hasP c.ts σ' [44]
 · rw [show moreF c.ts c.n (j + 1) acc σ' = (acc, σ') from by rw [moreF]; simp [hh]]
   have hst : rowSits (w.heap.size ≤ ·) w1 acc a := hown.rowsits (fun b h => by omega) (fun b h => by omega); have hs2 : (Nd.mk 85 0 nm acc).sits (fun b => w.heap.size ≤ b ∧ b ≠ bb1) w1 a := sits_mk (hown.rowsits (fun b h => ⟨by omega, by omega⟩) (fun b h => ⟨by omega, by omega⟩)); clear hown hst
   focus
    refine cw_seq (cS (cM rfl rfl ?_)); refine cC (by kernel_rfl) rfl (faccept_f _ _ _ _ (by assumption) (by decide) (by assumption)) rfl ?_; rintro _ wd3 ⟨⟨⟩, ⟨hd1, fd2⟩⟩; have zd4 := fd2.size; clear hP; replace hbn := hbn.fr fd2 (by omega); replace hbr := hbr.fr fd2 (by omega); replace X := X.fr fd2 (by omega); replace hs2 := Nd.sits.fr hs2 fd2 (by omega); clear fd2; refine cT (cw_cond_f rfl (cw_exit (qw_then_exit (qw_then_exit (qw_block_exit (qw_then (cS (cM rfl rfl ?_)))))))); refine cC (by kernel_rfl) rfl (fexpect_c _ _ _ _ (by assumption) (by decide)) rfl ?_; rintro _ wd7 ⟨⟨⟩, ⟨hd5, fd6⟩⟩; have zd8 := fd6.size; clear hd1; replace hbn := hbn.fr fd6 (by omega); replace hbr := hbr.fr fd6 (by omega); replace X := X.fr fd6 (by omega); replace hs2 := Nd.sits.fr hs2 fd6 (by omega); clear fd6; refine cN (lw_loads_b' [_, _, _, _] tabOk rfl rfl rfl hbn rfl rfl rfl ?_); (refine lw_store' [_, _, _, _] [_, _, _, _] tabOk rfl rfl rfl rfl rfl rfl hbr rfl rfl ?_; intro wd9 nd10); have hd13 := nd10.blk; have fd11 := nd10.fr; have zd12 := nd10.size; clear nd10 hbr; replace hd5 := hd5.fr fd11 (by omega); replace hbn := hbn.fr fd11 (by omega); replace X := X.fr fd11 (by omega); replace hs2 := Nd.sits.fr hs2 fd11 (by omega); clear fd11; refine cT (cw_ret (qw_retc rfl tabOk rfl rfl rfl hd13 rfl ?_)); rotate_left 1
   exact treeF_ret (r := (Nd.mk 85 0 nm acc, _)) (Nd.sits.wide hs2 (fun b h => h.1)) (by assumption) X
 · rw [show moreF c.ts c.n (j + 1) acc σ' = moreF c.ts c.n j (acc ++ [(exprF c.ts c.n j 1 (nextP σ')).1]) (exprF c.ts c.n j 1 (nextP σ')).2 from by rw [moreF]; simp [hh]]
   have i1 := has_in hP.at_ hh (by decide); have l1 := next_le i1; have m1 := mS_next i1; have l2 := exprF_le' (n := c.n) (k := j) (lv := 1) l1.wf; have m2 := mS_le l2; clear i1 l1 l2
   focus
    refine cw_seq (cS (cM rfl rfl ?_)); refine cC (by kernel_rfl) rfl (faccept_t _ _ _ _ (by assumption) (by decide) (by assumption)) rfl ?_; rintro _ we3 ⟨⟨⟩, ⟨he1, fe2⟩⟩; have ze4 := fe2.size; clear hP; replace hbn := hbn.fr fe2 (by omega); replace hown := OwnQ.fr hown fe2 (fun k hk => ⟨fun h => by (try dsimp only at hk h); omega, fun e => by have := OwnQ.ge (by assumption) e; (try dsimp only at hk); omega⟩); replace hbr := hbr.fr fe2 (by omega); replace X := X.fr fe2 (by omega); clear fe2; refine cT (cw_cond_t rfl (cw_skip (qw_then (cw_block ?_)))); (refine cw_tdraw (fun wz => Fr (· = c.pb) we3 wz) 5 (.pure 0 (.pure 1 (.pure 2 (.fork 3 (.fork 4 .tail .none) .none)))) mixed (by kernel_rfl) (panicOk_block (panicOk_then (panicOk_block (panicOk_then panicOk_body)))) ?_; intro we5 xe6 _); have qse7 : (fun wz => Fr (· = c.pb) we3 wz) we5 := Fr.of_ext xe6; simp only at qse7; have d_he1 := he1; have d_hbn := hbn; have d_hown := hown; have d_hbr := hbr; have ze8 := xe6.size; replace he1 := he1.ext xe6; replace hbn := hbn.ext xe6; replace hown := hown.ext xe6; replace hbr := hbr.ext xe6; replace X := X.ext xe6; clear xe6; refine ⟨qse7, ?_⟩; refine tw_pure rfl (pur_fieldAddr tabOk rfl rfl rfl) rfl ?_; refine tw_pure rfl (pur_load tabOk rfl rfl rfl (fun wz hz => Blk.cell (Blk.fr d_hbn hz (by first | omega | (dsimp only; omega))) rfl)) rfl ?_; refine tw_pure rfl (pur_move rfl) rfl ?_; refine tw_does rfl (does_call (by kernel_rfl) rfl ((IH j (by omega)).e _ _ _ (by assumption) (by omega) (by decide) (by decide)) (fun _ _ h => h.ret)) rfl ?_ (fun _ h => h) tw_none
    rintro _ we15 ⟨ae10, ⟨ke11, ⟨⟨⟩, ⟨he12, ⟨he13, fe14⟩⟩⟩⟩⟩; have ze16 := fe14.size; replace qse7 := qse7.fr fe14 (by omega); clear he1; replace hbn := hbn.fr fe14 (by omega); replace hown := OwnQ.fr hown fe14 (fun k hk => ⟨fun h => by (try dsimp only at hk h); omega, fun e => by have := OwnQ.ge (by assumption) e; (try dsimp only at hk); omega⟩); replace hbr := hbr.fr fe14 (by omega); replace X := X.fr fe14 (by omega); clear fe14; refine ⟨qse7, ?_⟩; (refine tw_does rfl (does_slice' [_, _, _, _] tabOk zOk rfl rfl rfl rfl rfl rfl rfl rfl rfl) rfl ?_ (fun _ h => h) tw_none; rintro _ we19 ⟨be18, rfl, ne20, te21⟩); clear te21; have he22 := ne20.blk; have xe23 := ne20.ext; have pe24 := ne20.pos; have ze25 := ne20.size; clear ne20; replace he12 := Nd.sits.ext he12 xe23; replace he13 := he13.ext xe23; replace qse7 := qse7.ext xe23; replace hbn := hbn.ext xe23; replace hown := hown.ext xe23; replace hbr := hbr.ext xe23; replace X := X.ext xe23; clear xe23; refine ⟨qse7, ?_⟩; clear d_he1 d_hbn d_hown d_hbr qse7; refine tw_tail rfl ?_; refine lw_does (does_appendQ (R := (bb17 < ·)) (sh := ndShape) tabOk zOk rfl rfl rfl rfl (by kernel_rfl) rfl rfl rfl (by assumption) (fun _ h => by exact h) (Blk.row (by assumption)) ⟨_, _, rfl, Nd.sits.wide (by assumption) (fun b h => ⟨by omega, fun e => by have := hob _ e; omega⟩)⟩ (by omega) (by omega)) rfl ?_ (fun _ h => h); rintro _ we32 ⟨ge26, ⟨cape27, ⟨rfl, ⟨he28, ⟨he29, ⟨he30, fe31⟩⟩⟩⟩⟩⟩; have ze33 := fe31.size; replace he22 := Blk.fr he22 fe31 (fun e => by have := hob _ e; omega)
    clear he12; replace he13 := PPF.fr he13 fe31 (fun k hk => by have := hob _ hk; omega); replace hbn := Blk.fr hbn fe31 (fun e => by have := hob _ e; omega); clear hown; replace hbr := Blk.fr hbr fe31 (fun e => by have := hob _ e; omega); replace X := Fr.fr X fe31 (fun k hk => by have := hob _ hk; omega); clear fe31; refine lw_pure (pur_fieldAddr tabOk rfl rfl rfl) rfl ?_; (refine lw_store' [_] [_, _, _, _] tabOk rfl rfl rfl rfl rfl rfl hbn rfl rfl ?_; intro we34 ne35); have he38 := ne35.blk; have fe36 := ne35.fr; have ze37 := ne35.size; clear ne35 hbn; replace he28 := OwnQ.fr he28 fe36 (fun k hk => ⟨fun h => by (try dsimp only at hk h); omega, fun e => by have := OwnQ.ge (by assumption) e; (try dsimp only at hk); omega⟩); replace he22 := he22.fr fe36 (by omega); replace he13 := he13.fr fe36 (by omega); replace hbr := hbr.fr fe36 (by omega); replace X := X.fr fe36 (by omega); clear fe36; refine lw_nil (qw_block_norm ?_); rotate_left 1
   exact qw_round (j, acc ++ [(exprF c.ts c.n j 1 (nextP σ')).1], some ⟨_, 0, none⟩, _, (exprF c.ts c.n j 1 (nextP σ')).2) (by (refine sub_cons rfl ?_; refine sub_cons rfl ?_; refine sub_cons rfl ?_; exact sub_nil)) ⟨by assumption, by assumption, by assumption, by assumption, X, by omega, rfl, by simp only; omega, by simp only; omega, by simp only [List.length_append, List.length_cons, List.length_nil]; omega⟩ (by simp)
end Bk
namespace Bk
open Go Go.RowKit Go.Proofs
attribute [local irreducible] Go.Calls
theorem rowWideF {S S' : Nat → Prop} {w : World} {l : List Nd} {a : Option Addr} (h : rowSits S w l a) (hS : ∀ b, S b → S' b) : rowSits S' w l a := rowSits_mono hS (fun _ _ _ _ h => h) l a h
theorem has_of {ts : List Tok} {σ : PS} {t : List UInt8} (h : (peekP ts σ).text = t) : hasP ts σ t = true := decide_eq_true h
set_option maxRecDepth 100000 in
set_option maxHeartbeats 4000000 in
theorem primary_fw (c : PCF) (k : Nat) (IH : ∀ j, j ≤ k → ExprsFC c j) : PrimFC c (k + 1) := by
 intro σ w hP hk; have X := Fr.refl (· = c.pb) w; have hpb := hP.pbB; have hB := hP.B; have hlen := hP.len
 by_cases t0 : (peekP c.ts σ).text = [91]
 · have hh := has_of t0
   have i1 := has_in hP.at_ hh (by decide); have h3 := i1.2; have m1 := mS_next i1; rw [show primF c.ts c.n (k + 1) σ = (.mk 86 0 [] [], expectP c.ts c.n (nextP σ) [93]) from by rw [primF]; simp [hasP, t0]]; clear i1 hh; refine calls_in Tryz.func109 Tryz.ntmps109 rfl rfl ?_
   focus
    refine cS ?_; (refine lw_alloc' [_, _, _, _] zOk rfl rfl ?_; intro b1 w2 n3); have h5 := n3.blk; have x6 := n3.ext; have p7 := n3.pos; have z8 := n3.size; clear n3; replace hP := hP.ext x6; replace X := X.ext x6; clear x6; refine cN (cM rfl rfl ?_); refine cC (by kernel_rfl) rfl (fpeek_c _ _ _ (by assumption)) rfl ?_; rintro _ w10 ⟨⟨⟩, x9⟩; have z11 := x9.size; replace h5 := h5.ext x9; replace hP := hP.ext x9; replace X := X.ext x9; clear x9; (refine lw_alloc' [_, _, _] zOk rfl rfl ?_; intro b12 w13 n14); (refine lw_init' [_, _, _] tabOk rfl rfl rfl rfl rfl rfl n14 rfl ?_; clear n14; clear w13; intro w15 n14); have h16 := n14.blk; have x17 := n14.ext; have p18 := n14.pos; have z19 := n14.size; clear n14; replace h5 := h5.ext x17; replace hP := hP.ext x17; replace X := X.ext x17; clear x17; refine cT (cw_seq (cS (lw_pure (pur_fieldAddr tabOk rfl rfl rfl) rfl (lw_load_b tabOk rfl rfl rfl h16 rfl rfl (cT (cw_block (cS (lw_pure (pur_seql rfl rfl) rfl (cA rfl rfl (cT ?_)))))))))); refine cw_yes rfl (by assumption) ?_; refine cS (cM rfl rfl (lw_pure (pur_nilCheck rfl) rfl (lw_pure (pur_fieldAddr tabOk rfl rfl rfl) rfl (lw_load_b tabOk rfl rfl rfl (PPF.blk hP) rfl rfl ?_)))); refine lw_pure (pur_add rfl rfl (IntWalk.i64_in _ (by omega))) rfl ?_; refine lw_pure (pur_nilCheck rfl) rfl (lw_pure (pur_fieldAddr tabOk rfl rfl rfl) rfl ?_); refine lw_ppf_at tabOk rfl rfl rfl rfl (by assumption) h3 ?_; rintro w20 h21 f22; have z23 := f22.size; replace h16 := h16.fr f22 (by omega); replace h5 := h5.fr f22 (by omega)
    clear hP; replace X := X.fr f22 (by omega); clear f22; refine cN (cM rfl rfl ?_); refine cC (by kernel_rfl) rfl (fexpect_c _ _ _ _ (by assumption) (by decide)) rfl ?_; rintro _ w26 ⟨⟨⟩, ⟨h24, f25⟩⟩; have z27 := f25.size; clear h21; replace h16 := h16.fr f25 (by omega); replace h5 := h5.fr f25 (by omega); replace X := X.fr f25 (by omega); clear f25; refine cN (lw_pure (pur_build' [_, _, _, _] tabOk zOk rfl rfl rfl rfl) rfl ?_); (refine lw_store' [_, _, _, _] [_, _, _, _] tabOk rfl rfl rfl rfl rfl rfl h5 rfl rfl ?_; intro w28 n29); have h32 := n29.blk; have f30 := n29.fr; have z31 := n29.size; clear n29 h5; replace h24 := h24.fr f30 (by omega); replace h16 := h16.fr f30 (by omega); replace X := X.fr f30 (by omega); clear f30; refine cT (cw_ret (qw_block_ret (qw_then_ret (qw_retc rfl tabOk rfl rfl rfl h32 rfl ?_)))); rotate_left 1
   exact treeF_ret sits_nil (by assumption) X
 by_cases t1 : (peekP c.ts σ).text = [112, 117, 115, 104]
 · have hh := has_of t1
   have i1 := has_in hP.at_ hh (by decide); have h3 := i1.2; have m1 := mS_next i1; rw [show primF c.ts c.n (k + 1) σ = (.mk 87 0 [] (args2F c.ts c.n k (nextP σ)).1, (args2F c.ts c.n k (nextP σ)).2) from by rw [primF]; simp [hasP, t1]]; clear i1 hh; refine calls_in Tryz.func109 Tryz.ntmps109 rfl rfl ?_
   focus
    refine cS ?_; (refine lw_alloc' [_, _, _, _] zOk rfl rfl ?_; intro ba1 wa2 na3); have ha5 := na3.blk; have xa6 := na3.ext; have pa7 := na3.pos; have za8 := na3.size; clear na3; replace hP := hP.ext xa6; replace X := X.ext xa6; clear xa6; refine cN (cM rfl rfl ?_); refine cC (by kernel_rfl) rfl (fpeek_c _ _ _ (by assumption)) rfl ?_; rintro _ wa10 ⟨⟨⟩, xa9⟩; have za11 := xa9.size; replace ha5 := ha5.ext xa9; replace hP := hP.ext xa9; replace X := X.ext xa9; clear xa9; (refine lw_alloc' [_, _, _] zOk rfl rfl ?_; intro ba12 wa13 na14); (refine lw_init' [_, _, _] tabOk rfl rfl rfl rfl rfl rfl na14 rfl ?_; clear na14; clear wa13; intro wa15 na14); have ha16 := na14.blk; have xa17 := na14.ext; have pa18 := na14.pos; have za19 := na14.size; clear na14; replace ha5 := ha5.ext xa17; replace hP := hP.ext xa17; replace X := X.ext xa17; clear xa17; refine cT (cw_seq (cS (lw_pure (pur_fieldAddr tabOk rfl rfl rfl) rfl (lw_load_b tabOk rfl rfl rfl ha16 rfl rfl (cT (cw_block (cS (lw_pure (pur_seql rfl rfl) rfl (cA rfl rfl (cT ?_)))))))))); refine cw_no rfl (by assumption) ?_; refine cS (lw_pure (pur_seql rfl rfl) rfl (cA rfl rfl (cT ?_))); refine cw_yes rfl (by assumption) ?_; refine cS (cM rfl rfl (lw_pure (pur_nilCheck rfl) rfl (lw_pure (pur_fieldAddr tabOk rfl rfl rfl) rfl (lw_load_b tabOk rfl rfl rfl (PPF.blk hP) rfl rfl ?_)))); refine lw_pure (pur_add rfl rfl (IntWalk.i64_in _ (by omega))) rfl ?_; refine lw_pure (pur_nilCheck rfl) rfl (lw_pure (pur_fieldAddr tabOk rfl rfl rfl) rfl ?_)
    refine lw_ppf_at tabOk rfl rfl rfl rfl (by assumption) h3 ?_; rintro wa20 ha21 fa22; have za23 := fa22.size; replace ha16 := ha16.fr fa22 (by omega); replace ha5 := ha5.fr fa22 (by omega); clear hP; replace X := X.fr fa22 (by omega); clear fa22; refine cN (cM rfl rfl ?_); refine cR (by kernel_rfl) rfl ((IH k (Nat.le_refl _)).a2 _ _ (by assumption) (by omega)) (fun _ _ h => h.ret) rfl ?_; rintro _ wa29 ⟨aa24, ⟨ka25, ⟨⟨⟩, ⟨ha26, ⟨ha27, fa28⟩⟩⟩⟩⟩; have za30 := fa28.size; clear ha21; replace ha16 := ha16.fr fa28 (by omega); replace ha5 := ha5.fr fa28 (by omega); replace X := X.fr fa28 (by omega); clear fa28; refine lw_pure (pur_build' [_, _, _, _] tabOk zOk rfl rfl rfl rfl) rfl ?_; (refine lw_store' [_, _, _, _] [_, _, _, _] tabOk rfl rfl rfl rfl rfl rfl ha5 rfl rfl ?_; intro wa31 na32); have ha35 := na32.blk; have fa33 := na32.fr; have za34 := na32.size; clear na32 ha5; replace ha26 := Bk.rowSits.fr ha26 fa33 (by omega); replace ha27 := ha27.fr fa33 (by omega); replace ha16 := ha16.fr fa33 (by omega); replace X := X.fr fa33 (by omega); clear fa33; refine cT (cw_ret (qw_block_ret (qw_then_ret (qw_retc rfl tabOk rfl rfl rfl ha35 rfl ?_)))); rotate_left 1
   exact treeF_ret (r := (Nd.mk 87 0 [] (args2F c.ts c.n k (nextP σ)).1, _)) (sits_mk (rowWideF (by assumption) (fun b h => by omega))) (by assumption) X
 by_cases t2 : (peekP c.ts σ).text = [112, 111, 112]
 · have hh := has_of t2
   have i1 := has_in hP.at_ hh (by decide); have h3 := i1.2; have m1 := mS_next i1; rw [show primF c.ts c.n (k + 1) σ = (.mk 89 0 [] (args1F c.ts c.n k (nextP σ)).1, (args1F c.ts c.n k (nextP σ)).2) from by rw [primF]; simp [hasP, t2]]; clear i1 hh; refine calls_in Tryz.func109 Tryz.ntmps109 rfl rfl ?_
   focus
    refine cS ?_; (refine lw_alloc' [_, _, _, _] zOk rfl rfl ?_; intro bb1 wb2 nb3); have hb5 := nb3.blk; have xb6 := nb3.ext; have pb7 := nb3.pos; have zb8 := nb3.size; clear nb3; replace hP := hP.ext xb6; replace X := X.ext xb6; clear xb6; refine cN (cM rfl rfl ?_); refine cC (by kernel_rfl) rfl (fpeek_c _ _ _ (by assumption)) rfl ?_; rintro _ wb10 ⟨⟨⟩, xb9⟩; have zb11 := xb9.size; replace hb5 := hb5.ext xb9; replace hP := hP.ext xb9; replace X := X.ext xb9; clear xb9; (refine lw_alloc' [_, _, _] zOk rfl rfl ?_; intro bb12 wb13 nb14); (refine lw_init' [_, _, _] tabOk rfl rfl rfl rfl rfl rfl nb14 rfl ?_; clear nb14; clear wb13; intro wb15 nb14); have hb16 := nb14.blk; have xb17 := nb14.ext; have pb18 := nb14.pos; have zb19 := nb14.size; clear nb14; replace hb5 := hb5.ext xb17; replace hP := hP.ext xb17; replace X := X.ext xb17; clear xb17; refine cT (cw_seq (cS (lw_pure (pur_fieldAddr tabOk rfl rfl rfl) rfl (lw_load_b tabOk rfl rfl rfl hb16 rfl rfl (cT (cw_block (cS (lw_pure (pur_seql rfl rfl) rfl (cA rfl rfl (cT ?_)))))))))); refine cw_no rfl (by assumption) ?_; refine cS (lw_pure (pur_seql rfl rfl) rfl (cA rfl rfl (cT ?_))); refine cw_no rfl (by assumption) ?_; refine cS (lw_pure (pur_seql rfl rfl) rfl (cA rfl rfl (cT ?_))); refine cw_yes rfl (by assumption) ?_; refine cS (cM rfl rfl (lw_pure (pur_nilCheck rfl) rfl (lw_pure (pur_fieldAddr tabOk rfl rfl rfl) rfl (lw_load_b tabOk rfl rfl rfl (PPF.blk hP) rfl rfl ?_)))); refine lw_pure (pur_add rfl rfl (IntWalk.i64_in _ (by omega))) rfl ?_
    refine lw_pure (pur_nilCheck rfl) rfl (lw_pure (pur_fieldAddr tabOk rfl rfl rfl) rfl ?_); refine lw_ppf_at tabOk rfl rfl rfl rfl (by assumption) h3 ?_; rintro wb20 hb21 fb22; have zb23 := fb22.size; replace hb16 := hb16.fr fb22 (by omega); replace hb5 := hb5.fr fb22 (by omega); clear hP; replace X := X.fr fb22 (by omega); clear fb22; refine cN (cM rfl rfl ?_); refine cR (by kernel_rfl) rfl ((IH k (Nat.le_refl _)).a1 _ _ (by assumption) (by omega)) (fun _ _ h => h.ret) rfl ?_; rintro _ wb29 ⟨ab24, ⟨kb25, ⟨⟨⟩, ⟨hb26, ⟨hb27, fb28⟩⟩⟩⟩⟩; have zb30 := fb28.size; clear hb21; replace hb16 := hb16.fr fb28 (by omega); replace hb5 := hb5.fr fb28 (by omega); replace X := X.fr fb28 (by omega); clear fb28; refine lw_pure (pur_build' [_, _, _, _] tabOk zOk rfl rfl rfl rfl) rfl ?_; (refine lw_store' [_, _, _, _] [_, _, _, _] tabOk rfl rfl rfl rfl rfl rfl hb5 rfl rfl ?_; intro wb31 nb32); have hb35 := nb32.blk; have fb33 := nb32.fr; have zb34 := nb32.size; clear nb32 hb5; replace hb26 := Bk.rowSits.fr hb26 fb33 (by omega); replace hb27 := hb27.fr fb33 (by omega); replace hb16 := hb16.fr fb33 (by omega); replace X := X.fr fb33 (by omega); clear fb33; refine cT (cw_ret (qw_block_ret (qw_then_ret (qw_retc rfl tabOk rfl rfl rfl hb35 rfl ?_)))); rotate_left 1
   exact treeF_ret (r := (Nd.mk 89 0 [] (args1F c.ts c.n k (nextP σ)).1, _)) (sits_mk (rowWideF (by assumption) (fun b h => by omega))) (by assumption) X
 by_cases t3 : (peekP c.ts σ).text = [116, 111, 112]
 · have hh := has_of t3
   have i1 := has_in hP.at_ hh (by decide); have h3 := i1.2; have m1 := mS_next i1; rw [show primF c.ts c.n (k + 1) σ = (.mk 88 0 [] (args1F c.ts c.n k (nextP σ)).1, (args1F c.ts c.n k (nextP σ)).2) from by rw [primF]; simp [hasP, t3]]; clear i1 hh; refine calls_in Tryz.func109 Tryz.ntmps109 rfl rfl ?_
   focus
    refine cS ?_; (refine lw_alloc' [_, _, _, _] zOk rfl rfl ?_; intro bc1 wc2 nc3); have hc5 := nc3.blk; have xc6 := nc3.ext; have pc7 := nc3.pos; have zc8 := nc3.size; clear nc3; replace hP := hP.ext xc6; replace X := X.ext xc6; clear xc6; refine cN (cM rfl rfl ?_); refine cC (by kernel_rfl) rfl (fpeek_c _ _ _ (by assumption)) rfl ?_; rintro _ wc10 ⟨⟨⟩, xc9⟩; have zc11 := xc9.size; replace hc5 := hc5.ext xc9; replace hP := hP.ext xc9; replace X := X.ext xc9; clear xc9; (refine lw_alloc' [_, _, _] zOk rfl rfl ?_; intro bc12 wc13 nc14); (refine lw_init' [_, _, _] tabOk rfl rfl rfl rfl rfl rfl nc14 rfl ?_; clear nc14; clear wc13; intro wc15 nc14); have hc16 := nc14.blk; have xc17 := nc14.ext; have pc18 := nc14.pos; have zc19 := nc14.size; clear nc14; replace hc5 := hc5.ext xc17; replace hP := hP.ext xc17; replace X := X.ext xc17; clear xc17; refine cT (cw_seq (cS (lw_pure (pur_fieldAddr tabOk rfl rfl rfl) rfl (lw_load_b tabOk rfl rfl rfl hc16 rfl rfl (cT (cw_block (cS (lw_pure (pur_seql rfl rfl) rfl (cA rfl rfl (cT ?_)))))))))); refine cw_no rfl (by assumption) ?_; refine cS (lw_pure (pur_seql rfl rfl) rfl (cA rfl rfl (cT ?_))); refine cw_no rfl (by assumption) ?_; refine cS (lw_pure (pur_seql rfl rfl) rfl (cA rfl rfl (cT ?_))); refine cw_no rfl (by assumption) ?_; refine cS (lw_pure (pur_seql rfl rfl) rfl (cA rfl rfl (cT ?_))); refine cw_yes rfl (by assumption) ?_; refine cS (cM rfl rfl (lw_pure (pur_nilCheck rfl) rfl (lw_pure (pur_fieldAddr tabOk rfl rfl rfl) rfl (lw_load_b tabOk rfl rfl rfl (PPF.blk hP) rfl rfl ?_))))
    refine lw_pure (pur_add rfl rfl (IntWalk.i64_in _ (by omega))) rfl ?_; refine lw_pure (pur_nilCheck rfl) rfl (lw_pure (pur_fieldAddr tabOk rfl rfl rfl) rfl ?_); refine lw_ppf_at tabOk rfl rfl rfl rfl (by assumption) h3 ?_; rintro wc20 hc21 fc22; have zc23 := fc22.size; replace hc16 := hc16.fr fc22 (by omega); replace hc5 := hc5.fr fc22 (by omega); clear hP; replace X := X.fr fc22 (by omega); clear fc22; refine cN (cM rfl rfl ?_); refine cR (by kernel_rfl) rfl ((IH k (Nat.le_refl _)).a1 _ _ (by assumption) (by omega)) (fun _ _ h => h.ret) rfl ?_; rintro _ wc29 ⟨ac24, ⟨kc25, ⟨⟨⟩, ⟨hc26, ⟨hc27, fc28⟩⟩⟩⟩⟩; have zc30 := fc28.size; clear hc21; replace hc16 := hc16.fr fc28 (by omega); replace hc5 := hc5.fr fc28 (by omega); replace X := X.fr fc28 (by omega); clear fc28; refine lw_pure (pur_build' [_, _, _, _] tabOk zOk rfl rfl rfl rfl) rfl ?_; (refine lw_store' [_, _, _, _] [_, _, _, _] tabOk rfl rfl rfl rfl rfl rfl hc5 rfl rfl ?_; intro wc31 nc32); have hc35 := nc32.blk; have fc33 := nc32.fr; have zc34 := nc32.size; clear nc32 hc5; replace hc26 := Bk.rowSits.fr hc26 fc33 (by omega); replace hc27 := hc27.fr fc33 (by omega); replace hc16 := hc16.fr fc33 (by omega); replace X := X.fr fc33 (by omega); clear fc33; refine cT (cw_ret (qw_block_ret (qw_then_ret (qw_retc rfl tabOk rfl rfl rfl hc35 rfl ?_)))); rotate_left 1
   exact treeF_ret (r := (Nd.mk 88 0 [] (args1F c.ts c.n k (nextP σ)).1, _)) (sits_mk (rowWideF (by assumption) (fun b h => by omega))) (by assumption) X
 by_cases t4 : (peekP c.ts σ).text = [33]
 · have hh := has_of t4
   have i1 := has_in hP.at_ hh (by decide); have h3 := i1.2; have m1 := mS_next i1; rw [show primF c.ts c.n (k + 1) σ = (.mk 90 0 [] [(primF c.ts c.n k (nextP σ)).1], (primF c.ts c.n k (nextP σ)).2) from by rw [primF]; simp [hasP, t4]]; clear i1 hh; refine calls_in Tryz.func109 Tryz.ntmps109 rfl rfl ?_
   focus
    refine cS ?_; (refine lw_alloc' [_, _, _, _] zOk rfl rfl ?_; intro bd1 wd2 nd3); have hd5 := nd3.blk; have xd6 := nd3.ext; have pd7 := nd3.pos; have zd8 := nd3.size; clear nd3; replace hP := hP.ext xd6; replace X := X.ext xd6; clear xd6; refine cN (cM rfl rfl ?_); refine cC (by kernel_rfl) rfl (fpeek_c _ _ _ (by assumption)) rfl ?_; rintro _ wd10 ⟨⟨⟩, xd9⟩; have zd11 := xd9.size; replace hd5 := hd5.ext xd9; replace hP := hP.ext xd9; replace X := X.ext xd9; clear xd9; (refine lw_alloc' [_, _, _] zOk rfl rfl ?_; intro bd12 wd13 nd14); (refine lw_init' [_, _, _] tabOk rfl rfl rfl rfl rfl rfl nd14 rfl ?_; clear nd14; clear wd13; intro wd15 nd14); have hd16 := nd14.blk; have xd17 := nd14.ext; have pd18 := nd14.pos; have zd19 := nd14.size; clear nd14; replace hd5 := hd5.ext xd17; replace hP := hP.ext xd17; replace X := X.ext xd17; clear xd17; refine cT (cw_seq (cS (lw_pure (pur_fieldAddr tabOk rfl rfl rfl) rfl (lw_load_b tabOk rfl rfl rfl hd16 rfl rfl (cT (cw_block (cS (lw_pure (pur_seql rfl rfl) rfl (cA rfl rfl (cT ?_)))))))))); refine cw_no rfl (by assumption) ?_; refine cS (lw_pure (pur_seql rfl rfl) rfl (cA rfl rfl (cT ?_))); refine cw_no rfl (by assumption) ?_; refine cS (lw_pure (pur_seql rfl rfl) rfl (cA rfl rfl (cT ?_))); refine cw_no rfl (by assumption) ?_; refine cS (lw_pure (pur_seql rfl rfl) rfl (cA rfl rfl (cT ?_))); refine cw_no rfl (by assumption) ?_; refine cS (lw_pure (pur_seql rfl rfl) rfl (cA rfl rfl (cT ?_))); refine cw_yes rfl (by assumption) ?_; refine cS (cM rfl rfl (lw_pure (pur_nilCheck rfl) rfl (lw_pure (pur_fieldAddr tabOk rfl rfl rfl) rfl (lw_load_b tabOk rfl rfl rfl (PPF.blk hP) rfl rfl ?_))))
    refine lw_pure (pur_add rfl rfl (IntWalk.i64_in _ (by omega))) rfl ?_; refine lw_pure (pur_nilCheck rfl) rfl (lw_pure (pur_fieldAddr tabOk rfl rfl rfl) rfl ?_); refine lw_ppf_at tabOk rfl rfl rfl rfl (by assumption) h3 ?_; rintro wd20 hd21 fd22; have zd23 := fd22.size; replace hd16 := hd16.fr fd22 (by omega); replace hd5 := hd5.fr fd22 (by omega); clear hP; replace X := X.fr fd22 (by omega); clear fd22; refine cN (cM rfl rfl ?_); refine cR (by kernel_rfl) rfl ((IH k (Nat.le_refl _)).p _ _ (by assumption) (by omega)) (fun _ _ h => h.ret) rfl ?_; rintro _ wd29 ⟨ad24, ⟨kd25, ⟨⟨⟩, ⟨hd26, ⟨hd27, fd28⟩⟩⟩⟩⟩; have zd30 := fd28.size; clear hd21; replace hd16 := hd16.fr fd28 (by omega); replace hd5 := hd5.fr fd28 (by omega); replace X := X.fr fd28 (by omega); clear fd28; (refine lw_does (does_slice' [_, _, _, _] tabOk zOk rfl rfl rfl rfl rfl rfl rfl rfl rfl) rfl ?_ (fun _ h => h); rintro _ wd32 ⟨bd31, rfl, nd33, td34⟩); clear td34; have hd35 := nd33.blk; have xd36 := nd33.ext; have pd37 := nd33.pos; have zd38 := nd33.size; clear nd33; replace hd26 := Nd.sits.ext hd26 xd36; replace hd27 := hd27.ext xd36; replace hd16 := hd16.ext xd36; replace hd5 := hd5.ext xd36; replace X := X.ext xd36; clear xd36; refine lw_pure (pur_build' [_, _, _, _] tabOk zOk rfl rfl rfl rfl) rfl ?_; (refine lw_store' [_, _, _, _] [_, _, _, _] tabOk rfl rfl rfl rfl rfl rfl hd5 rfl rfl ?_; intro wd39 nd40); have hd43 := nd40.blk; have fd41 := nd40.fr; have zd42 := nd40.size; clear nd40 hd5; replace hd35 := hd35.fr fd41 (by omega)
    replace hd26 := Nd.sits.fr hd26 fd41 (by omega); replace hd27 := hd27.fr fd41 (by omega); replace hd16 := hd16.fr fd41 (by omega); replace X := X.fr fd41 (by omega); clear fd41; refine cT (cw_ret (qw_block_ret (qw_then_ret (qw_retc rfl tabOk rfl rfl rfl hd43 rfl ?_)))); rotate_left 1
   exact treeF_ret (sits_1 (by assumption) (by omega) (by assumption) (fun b h => by omega)) (by assumption) X
 by_cases t5 : (peekP c.ts σ).text = [105, 102]
 · have hh := has_of t5
   have i1 := has_in hP.at_ hh (by decide); have h3 := i1.2; have m1 := mS_next i1; rw [show primF c.ts c.n (k + 1) σ = ifF c.ts c.n k σ from by rw [primF]; simp [hasP, t5]]; clear i1 hh; refine calls_in Tryz.func109 Tryz.ntmps109 rfl rfl ?_
   focus
    refine cS ?_; (refine lw_alloc' [_, _, _, _] zOk rfl rfl ?_; intro be1 we2 ne3); have he5 := ne3.blk; have xe6 := ne3.ext; have pe7 := ne3.pos; have ze8 := ne3.size; clear ne3; replace hP := hP.ext xe6; replace X := X.ext xe6; clear xe6; refine cN (cM rfl rfl ?_); refine cC (by kernel_rfl) rfl (fpeek_c _ _ _ (by assumption)) rfl ?_; rintro _ we10 ⟨⟨⟩, xe9⟩; have ze11 := xe9.size; replace he5 := he5.ext xe9; replace hP := hP.ext xe9; replace X := X.ext xe9; clear xe9; (refine lw_alloc' [_, _, _] zOk rfl rfl ?_; intro be12 we13 ne14); (refine lw_init' [_, _, _] tabOk rfl rfl rfl rfl rfl rfl ne14 rfl ?_; clear ne14; clear we13; intro we15 ne14); have he16 := ne14.blk; have xe17 := ne14.ext; have pe18 := ne14.pos; have ze19 := ne14.size; clear ne14; replace he5 := he5.ext xe17; replace hP := hP.ext xe17; replace X := X.ext xe17; clear xe17; refine cT (cw_seq (cS (lw_pure (pur_fieldAddr tabOk rfl rfl rfl) rfl (lw_load_b tabOk rfl rfl rfl he16 rfl rfl (cT (cw_block (cS (lw_pure (pur_seql rfl rfl) rfl (cA rfl rfl (cT ?_)))))))))); refine cw_no rfl (by assumption) ?_; refine cS (lw_pure (pur_seql rfl rfl) rfl (cA rfl rfl (cT ?_))); refine cw_no rfl (by assumption) ?_; refine cS (lw_pure (pur_seql rfl rfl) rfl (cA rfl rfl (cT ?_))); refine cw_no rfl (by assumption) ?_; refine cS (lw_pure (pur_seql rfl rfl) rfl (cA rfl rfl (cT ?_))); refine cw_no rfl (by assumption) ?_; refine cS (lw_pure (pur_seql rfl rfl) rfl (cA rfl rfl (cT ?_))); refine cw_no rfl (by assumption) ?_; refine cS (lw_pure (pur_seql rfl rfl) rfl (cA rfl rfl (cT ?_)))
    refine cw_yes rfl (by assumption) ?_; refine cS (cM rfl rfl ?_); refine cR (by kernel_rfl) rfl ((IH k (Nat.le_refl _)).i _ _ (by assumption) (by omega) (by omega)) (fun _ _ h => h.ret) rfl ?_; rintro _ we25 ⟨ae20, ⟨ke21, ⟨⟨⟩, ⟨he22, ⟨he23, fe24⟩⟩⟩⟩⟩; have ze26 := fe24.size; replace he16 := he16.fr fe24 (by omega); replace he5 := he5.fr fe24 (by omega); clear hP; replace X := X.fr fe24 (by omega); clear fe24; (refine lw_store' [_, _, _, _] [_, _, _, _] tabOk rfl rfl rfl rfl rfl rfl he5 rfl rfl ?_; intro we27 ne28); have he31 := ne28.blk; have fe29 := ne28.fr; have ze30 := ne28.size; clear ne28 he5; replace he22 := Nd.sits.fr he22 fe29 (by omega); replace he23 := he23.fr fe29 (by omega); replace he16 := he16.fr fe29 (by omega); replace X := X.fr fe29 (by omega); clear fe29; refine cT (cw_ret (qw_block_ret (qw_then_ret (qw_retc rfl tabOk rfl rfl rfl he31 rfl ?_)))); rotate_left 1
   exact treeF_ret (Nd.sits.wide (by assumption) (fun b h => by omega)) (by assumption) X
 by_cases t6 : (peekP c.ts σ).text = [108, 111, 99, 97, 108]
 · have hh := has_of t6
   have i1 := has_in hP.at_ hh (by decide); have h3 := i1.2; have m1 := mS_next i1; rw [show primF c.ts c.n (k + 1) σ = letF c.ts c.n k σ from by rw [primF]; simp [hasP, t6]]; clear i1 hh; refine calls_in Tryz.func109 Tryz.ntmps109 rfl rfl ?_
   focus
    refine cS ?_; (refine lw_alloc' [_, _, _, _] zOk rfl rfl ?_; intro bf1 wf2 nf3); have hf5 := nf3.blk; have xf6 := nf3.ext; have pf7 := nf3.pos; have zf8 := nf3.size; clear nf3; replace hP := hP.ext xf6; replace X := X.ext xf6; clear xf6; refine cN (cM rfl rfl ?_); refine cC (by kernel_rfl) rfl (fpeek_c _ _ _ (by assumption)) rfl ?_; rintro _ wf10 ⟨⟨⟩, xf9⟩; have zf11 := xf9.size; replace hf5 := hf5.ext xf9; replace hP := hP.ext xf9; replace X := X.ext xf9; clear xf9; (refine lw_alloc' [_, _, _] zOk rfl rfl ?_; intro bf12 wf13 nf14); (refine lw_init' [_, _, _] tabOk rfl rfl rfl rfl rfl rfl nf14 rfl ?_; clear nf14; clear wf13; intro wf15 nf14); have hf16 := nf14.blk; have xf17 := nf14.ext; have pf18 := nf14.pos; have zf19 := nf14.size; clear nf14; replace hf5 := hf5.ext xf17; replace hP := hP.ext xf17; replace X := X.ext xf17; clear xf17; refine cT (cw_seq (cS (lw_pure (pur_fieldAddr tabOk rfl rfl rfl) rfl (lw_load_b tabOk rfl rfl rfl hf16 rfl rfl (cT (cw_block (cS (lw_pure (pur_seql rfl rfl) rfl (cA rfl rfl (cT ?_)))))))))); refine cw_no rfl (by assumption) ?_; refine cS (lw_pure (pur_seql rfl rfl) rfl (cA rfl rfl (cT ?_))); refine cw_no rfl (by assumption) ?_; refine cS (lw_pure (pur_seql rfl rfl) rfl (cA rfl rfl (cT ?_))); refine cw_no rfl (by assumption) ?_; refine cS (lw_pure (pur_seql rfl rfl) rfl (cA rfl rfl (cT ?_))); refine cw_no rfl (by assumption) ?_; refine cS (lw_pure (pur_seql rfl rfl) rfl (cA rfl rfl (cT ?_))); refine cw_no rfl (by assumption) ?_; refine cS (lw_pure (pur_seql rfl rfl) rfl (cA rfl rfl (cT ?_)))
    refine cw_no rfl (by assumption) ?_; refine cS (lw_pure (pur_seql rfl rfl) rfl (cA rfl rfl (cT ?_))); refine cw_yes rfl (by assumption) ?_; refine cS (cM rfl rfl ?_); refine cR (by kernel_rfl) rfl ((IH k (Nat.le_refl _)).l _ _ (by assumption) (by omega) (by omega)) (fun _ _ h => h.ret) rfl ?_; rintro _ wf25 ⟨af20, ⟨kf21, ⟨⟨⟩, ⟨hf22, ⟨hf23, ff24⟩⟩⟩⟩⟩; have zf26 := ff24.size; replace hf16 := hf16.fr ff24 (by omega); replace hf5 := hf5.fr ff24 (by omega); clear hP; replace X := X.fr ff24 (by omega); clear ff24; (refine lw_store' [_, _, _, _] [_, _, _, _] tabOk rfl rfl rfl rfl rfl rfl hf5 rfl rfl ?_; intro wf27 nf28); have hf31 := nf28.blk; have ff29 := nf28.fr; have zf30 := nf28.size; clear nf28 hf5; replace hf22 := Nd.sits.fr hf22 ff29 (by omega); replace hf23 := hf23.fr ff29 (by omega); replace hf16 := hf16.fr ff29 (by omega); replace X := X.fr ff29 (by omega); clear ff29; refine cT (cw_ret (qw_block_ret (qw_then_ret (qw_retc rfl tabOk rfl rfl rfl hf31 rfl ?_)))); rotate_left 1
   exact treeF_ret (Nd.sits.wide (by assumption) (fun b h => by omega)) (by assumption) X
 by_cases t7 : (peekP c.ts σ).text = [40]
 · have hh := has_of t7
   have i1 := has_in hP.at_ hh (by decide); have h3 := i1.2; have m1 := mS_next i1; rw [show primF c.ts c.n (k + 1) σ = ((exprF c.ts c.n k 1 (nextP σ)).1, expectP c.ts c.n (exprF c.ts c.n k 1 (nextP σ)).2 [41]) from by rw [primF]; simp [hasP, t7]]; clear i1 hh; refine calls_in Tryz.func109 Tryz.ntmps109 rfl rfl ?_
   focus
    refine cS ?_; (refine lw_alloc' [_, _, _, _] zOk rfl rfl ?_; intro bg1 wg2 ng3); have hg5 := ng3.blk; have xg6 := ng3.ext; have pg7 := ng3.pos; have zg8 := ng3.size; clear ng3; replace hP := hP.ext xg6; replace X := X.ext xg6; clear xg6; refine cN (cM rfl rfl ?_); refine cC (by kernel_rfl) rfl (fpeek_c _ _ _ (by assumption)) rfl ?_; rintro _ wg10 ⟨⟨⟩, xg9⟩; have zg11 := xg9.size; replace hg5 := hg5.ext xg9; replace hP := hP.ext xg9; replace X := X.ext xg9; clear xg9; (refine lw_alloc' [_, _, _] zOk rfl rfl ?_; intro bg12 wg13 ng14); (refine lw_init' [_, _, _] tabOk rfl rfl rfl rfl rfl rfl ng14 rfl ?_; clear ng14; clear wg13; intro wg15 ng14); have hg16 := ng14.blk; have xg17 := ng14.ext; have pg18 := ng14.pos; have zg19 := ng14.size; clear ng14; replace hg5 := hg5.ext xg17; replace hP := hP.ext xg17; replace X := X.ext xg17; clear xg17; refine cT (cw_seq (cS (lw_pure (pur_fieldAddr tabOk rfl rfl rfl) rfl (lw_load_b tabOk rfl rfl rfl hg16 rfl rfl (cT (cw_block (cS (lw_pure (pur_seql rfl rfl) rfl (cA rfl rfl (cT ?_)))))))))); refine cw_no rfl (by assumption) ?_; refine cS (lw_pure (pur_seql rfl rfl) rfl (cA rfl rfl (cT ?_))); refine cw_no rfl (by assumption) ?_; refine cS (lw_pure (pur_seql rfl rfl) rfl (cA rfl rfl (cT ?_))); refine cw_no rfl (by assumption) ?_; refine cS (lw_pure (pur_seql rfl rfl) rfl (cA rfl rfl (cT ?_))); refine cw_no rfl (by assumption) ?_; refine cS (lw_pure (pur_seql rfl rfl) rfl (cA rfl rfl (cT ?_))); refine cw_no rfl (by assumption) ?_; refine cS (lw_pure (pur_seql rfl rfl) rfl (cA rfl rfl (cT ?_)))
    refine cw_no rfl (by assumption) ?_; refine cS (lw_pure (pur_seql rfl rfl) rfl (cA rfl rfl (cT ?_))); refine cw_no rfl (by assumption) ?_; refine cS (lw_pure (pur_seql rfl rfl) rfl (cA rfl rfl (cT ?_))); refine cw_yes rfl (by assumption) ?_; refine cS (cM rfl rfl (lw_pure (pur_nilCheck rfl) rfl (lw_pure (pur_fieldAddr tabOk rfl rfl rfl) rfl (lw_load_b tabOk rfl rfl rfl (PPF.blk hP) rfl rfl ?_)))); refine lw_pure (pur_add rfl rfl (IntWalk.i64_in _ (by omega))) rfl ?_; refine lw_pure (pur_nilCheck rfl) rfl (lw_pure (pur_fieldAddr tabOk rfl rfl rfl) rfl ?_); refine lw_ppf_at tabOk rfl rfl rfl rfl (by assumption) h3 ?_; rintro wg20 hg21 fg22; have zg23 := fg22.size; replace hg16 := hg16.fr fg22 (by omega); replace hg5 := hg5.fr fg22 (by omega); clear hP; replace X := X.fr fg22 (by omega); clear fg22; refine cN (cM rfl rfl ?_); refine cR (by kernel_rfl) rfl ((IH k (Nat.le_refl _)).e _ _ _ (by assumption) (by omega) (by decide) (by decide)) (fun _ _ h => h.ret) rfl ?_; rintro _ wg29 ⟨ag24, ⟨kg25, ⟨⟨⟩, ⟨hg26, ⟨hg27, fg28⟩⟩⟩⟩⟩; have zg30 := fg28.size; clear hg21; replace hg16 := hg16.fr fg28 (by omega); replace hg5 := hg5.fr fg28 (by omega); replace X := X.fr fg28 (by omega); clear fg28; (refine lw_alloc' [_, _, _, _] zOk rfl rfl ?_; intro bg31 wg32 ng33); (refine lw_init' [_, _, _, _] tabOk rfl rfl rfl rfl rfl rfl ng33 rfl ?_; clear ng33; clear wg32; intro wg34 ng33); have hg35 := ng33.blk; have xg36 := ng33.ext; have pg37 := ng33.pos; have zg38 := ng33.size; clear ng33; replace hg26 := Nd.sits.ext hg26 xg36
    replace hg27 := hg27.ext xg36; replace hg16 := hg16.ext xg36; replace hg5 := hg5.ext xg36; replace X := X.ext xg36; clear xg36; refine cN (cM rfl rfl ?_); refine cC (by kernel_rfl) rfl (fexpect_c _ _ _ _ (by assumption) (by decide)) rfl ?_; rintro _ wg41 ⟨⟨⟩, ⟨hg39, fg40⟩⟩; have zg42 := fg40.size; replace hg35 := hg35.fr fg40 (by omega); replace hg26 := Nd.sits.fr hg26 fg40 (by omega); clear hg27; replace hg16 := hg16.fr fg40 (by omega); replace hg5 := hg5.fr fg40 (by omega); replace X := X.fr fg40 (by omega); clear fg40; refine cN (lw_loads_b' [_, _, _, _] tabOk rfl rfl rfl hg35 rfl rfl rfl ?_); (refine lw_store' [_, _, _, _] [_, _, _, _] tabOk rfl rfl rfl rfl rfl rfl hg5 rfl rfl ?_; intro wg43 ng44); have hg47 := ng44.blk; have fg45 := ng44.fr; have zg46 := ng44.size; clear ng44 hg5; replace hg39 := hg39.fr fg45 (by omega); replace hg35 := hg35.fr fg45 (by omega); replace hg26 := Nd.sits.fr hg26 fg45 (by omega); replace hg16 := hg16.fr fg45 (by omega); replace X := X.fr fg45 (by omega); clear fg45; refine cT (cw_ret (qw_block_ret (qw_then_ret (qw_retc rfl tabOk rfl rfl rfl hg47 rfl ?_)))); rotate_left 1
   exact treeF_ret (Nd.sits.wide (by assumption) (fun b h => by omega)) (by assumption) X
 by_cases hk2 : (peekP c.ts σ).kind = 2
 · rw [show primF c.ts c.n (k + 1) σ = fnumP c.ts σ from by rw [primF]; simp [hasP, t0, t1, t2, t3, t4, t5, t6, t7, hk2]]
   refine calls_in Tryz.func109 Tryz.ntmps109 rfl rfl ?_
   focus
    refine cS ?_; (refine lw_alloc' [_, _, _, _] zOk rfl rfl ?_; intro bh1 wh2 nh3); have hh5 := nh3.blk; have xh6 := nh3.ext; have ph7 := nh3.pos; have zh8 := nh3.size; clear nh3; replace hP := hP.ext xh6; replace X := X.ext xh6; clear xh6; refine cN (cM rfl rfl ?_); refine cC (by kernel_rfl) rfl (fpeek_c _ _ _ (by assumption)) rfl ?_; rintro _ wh10 ⟨⟨⟩, xh9⟩; have zh11 := xh9.size; replace hh5 := hh5.ext xh9; replace hP := hP.ext xh9; replace X := X.ext xh9; clear xh9; (refine lw_alloc' [_, _, _] zOk rfl rfl ?_; intro bh12 wh13 nh14); (refine lw_init' [_, _, _] tabOk rfl rfl rfl rfl rfl rfl nh14 rfl ?_; clear nh14; clear wh13; intro wh15 nh14); have hh16 := nh14.blk; have xh17 := nh14.ext; have ph18 := nh14.pos; have zh19 := nh14.size; clear nh14; replace hh5 := hh5.ext xh17; replace hP := hP.ext xh17; replace X := X.ext xh17; clear xh17; refine cT (cw_seq (cS (lw_pure (pur_fieldAddr tabOk rfl rfl rfl) rfl (lw_load_b tabOk rfl rfl rfl hh16 rfl rfl (cT (cw_block (cS (lw_pure (pur_seql rfl rfl) rfl (cA rfl rfl (cT ?_)))))))))); refine cw_no rfl (by assumption) ?_; refine cS (lw_pure (pur_seql rfl rfl) rfl (cA rfl rfl (cT ?_))); refine cw_no rfl (by assumption) ?_; refine cS (lw_pure (pur_seql rfl rfl) rfl (cA rfl rfl (cT ?_))); refine cw_no rfl (by assumption) ?_; refine cS (lw_pure (pur_seql rfl rfl) rfl (cA rfl rfl (cT ?_))); refine cw_no rfl (by assumption) ?_; refine cS (lw_pure (pur_seql rfl rfl) rfl (cA rfl rfl (cT ?_))); refine cw_no rfl (by assumption) ?_; refine cS (lw_pure (pur_seql rfl rfl) rfl (cA rfl rfl (cT ?_)))
    refine cw_no rfl (by assumption) ?_; refine cS (lw_pure (pur_seql rfl rfl) rfl (cA rfl rfl (cT ?_))); refine cw_no rfl (by assumption) ?_; refine cS (lw_pure (pur_seql rfl rfl) rfl (cA rfl rfl (cT ?_))); refine cw_no rfl (by assumption) ?_; refine cw_skip (qw_block_norm (qw_then (cw_seq (cS (lw_pure (pur_fieldAddr0 tabOk rfl rfl rfl) rfl (lw_load_b tabOk rfl rfl rfl hh16 rfl rfl (lw_pure (pur_eql rfl rfl) rfl (cT ?_)))))))); refine cw_yes rfl (by assumption) ?_; refine cS (cM rfl rfl ?_); refine cR (by kernel_rfl) rfl (fnumber_c _ _ _ (by assumption) (by assumption)) (fun _ _ h => h.ret) rfl ?_; rintro _ wh25 ⟨ah20, ⟨kh21, ⟨⟨⟩, ⟨hh22, ⟨hh23, fh24⟩⟩⟩⟩⟩; have zh26 := fh24.size; replace hh16 := hh16.fr fh24 (by omega); replace hh5 := hh5.fr fh24 (by omega); clear hP; replace X := X.fr fh24 (by omega); clear fh24; (refine lw_store' [_, _, _, _] [_, _, _, _] tabOk rfl rfl rfl rfl rfl rfl hh5 rfl rfl ?_; intro wh27 nh28); have hh31 := nh28.blk; have fh29 := nh28.fr; have zh30 := nh28.size; clear nh28 hh5; replace hh22 := Nd.sits.fr hh22 fh29 (by omega); replace hh23 := hh23.fr fh29 (by omega); replace hh16 := hh16.fr fh29 (by omega); replace X := X.fr fh29 (by omega); clear fh29; refine cT (cw_ret (qw_then_ret (qw_retc rfl tabOk rfl rfl rfl hh31 rfl ?_))); rotate_left 1
   exact treeF_ret (Nd.sits.wide (by assumption) (fun b h => by omega)) (by assumption) X
 · rw [show primF c.ts c.n (k + 1) σ = namedF c.ts c.n k σ from by rw [primF]; simp [hasP, t0, t1, t2, t3, t4, t5, t6, t7, hk2]]
   refine calls_in Tryz.func109 Tryz.ntmps109 rfl rfl ?_
   focus
    refine cS ?_; (refine lw_alloc' [_, _, _, _] zOk rfl rfl ?_; intro bi1 wi2 ni3); have hi5 := ni3.blk; have xi6 := ni3.ext; have pi7 := ni3.pos; have zi8 := ni3.size; clear ni3; replace hP := hP.ext xi6; replace X := X.ext xi6; clear xi6; refine cN (cM rfl rfl ?_); refine cC (by kernel_rfl) rfl (fpeek_c _ _ _ (by assumption)) rfl ?_; rintro _ wi10 ⟨⟨⟩, xi9⟩; have zi11 := xi9.size; replace hi5 := hi5.ext xi9; replace hP := hP.ext xi9; replace X := X.ext xi9; clear xi9; (refine lw_alloc' [_, _, _] zOk rfl rfl ?_; intro bi12 wi13 ni14); (refine lw_init' [_, _, _] tabOk rfl rfl rfl rfl rfl rfl ni14 rfl ?_; clear ni14; clear wi13; intro wi15 ni14); have hi16 := ni14.blk; have xi17 := ni14.ext; have pi18 := ni14.pos; have zi19 := ni14.size; clear ni14; replace hi5 := hi5.ext xi17; replace hP := hP.ext xi17; replace X := X.ext xi17; clear xi17; refine cT (cw_seq (cS (lw_pure (pur_fieldAddr tabOk rfl rfl rfl) rfl (lw_load_b tabOk rfl rfl rfl hi16 rfl rfl (cT (cw_block (cS (lw_pure (pur_seql rfl rfl) rfl (cA rfl rfl (cT ?_)))))))))); refine cw_no rfl (by assumption) ?_; refine cS (lw_pure (pur_seql rfl rfl) rfl (cA rfl rfl (cT ?_))); refine cw_no rfl (by assumption) ?_; refine cS (lw_pure (pur_seql rfl rfl) rfl (cA rfl rfl (cT ?_))); refine cw_no rfl (by assumption) ?_; refine cS (lw_pure (pur_seql rfl rfl) rfl (cA rfl rfl (cT ?_))); refine cw_no rfl (by assumption) ?_; refine cS (lw_pure (pur_seql rfl rfl) rfl (cA rfl rfl (cT ?_))); refine cw_no rfl (by assumption) ?_; refine cS (lw_pure (pur_seql rfl rfl) rfl (cA rfl rfl (cT ?_)))
    refine cw_no rfl (by assumption) ?_; refine cS (lw_pure (pur_seql rfl rfl) rfl (cA rfl rfl (cT ?_))); refine cw_no rfl (by assumption) ?_; refine cS (lw_pure (pur_seql rfl rfl) rfl (cA rfl rfl (cT ?_))); refine cw_no rfl (by assumption) ?_; refine cw_skip (qw_block_norm (qw_then (cw_seq (cS (lw_pure (pur_fieldAddr0 tabOk rfl rfl rfl) rfl (lw_load_b tabOk rfl rfl rfl hi16 rfl rfl (lw_pure (pur_eql rfl rfl) rfl (cT ?_)))))))); refine cw_no rfl (by assumption) ?_; refine cw_skip (qw_then (cS (cM rfl rfl ?_))); refine cR (by kernel_rfl) rfl ((IH k (Nat.le_refl _)).d _ _ (by assumption) (by omega)) (fun _ _ h => h.ret) rfl ?_; rintro _ wi25 ⟨ai20, ⟨ki21, ⟨⟨⟩, ⟨hi22, ⟨hi23, fi24⟩⟩⟩⟩⟩; have zi26 := fi24.size; replace hi16 := hi16.fr fi24 (by omega); replace hi5 := hi5.fr fi24 (by omega); clear hP; replace X := X.fr fi24 (by omega); clear fi24; (refine lw_store' [_, _, _, _] [_, _, _, _] tabOk rfl rfl rfl rfl rfl rfl hi5 rfl rfl ?_; intro wi27 ni28); have hi31 := ni28.blk; have fi29 := ni28.fr; have zi30 := ni28.size; clear ni28 hi5; replace hi22 := Nd.sits.fr hi22 fi29 (by omega); replace hi23 := hi23.fr fi29 (by omega); replace hi16 := hi16.fr fi29 (by omega); replace X := X.fr fi29 (by omega); clear fi29; refine cT (cw_ret (qw_retc rfl tabOk rfl rfl rfl hi31 rfl ?_)); rotate_left 1
   exact treeF_ret (Nd.sits.wide (by assumption) (fun b h => by omega)) (by assumption) X
theorem getS_binF (t : List UInt8) : getS binMap t = (binOf t).map fun k => .int .u8 k := by
 unfold binMap binOf
 generalize hL : [(8 : Int), 9, 10, 11, 12, 13, 14, 15, 16, 17, 18, 19, 20, 21, 22, 23] = L
 clear hL
 induction L with
 | nil => rfl
 | cons k r ih =>
  simp only [List.map_cons, getS, List.find?_cons]
  by_cases h : symbol k = t
  · simp [h]
  · rw [if_neg (fun e => h e.symm), ih]; simp [h]
set_option maxRecDepth 100000 in
set_option maxHeartbeats 2000000 in
theorem expr_fw (c : PCF) (k : Nat) (IH : ∀ j, j ≤ k → ExprsFC c j) : ExprFC c (k + 1) := by
 intro lv σ w hP hk hl0 hl1; have X := Fr.refl (· = c.pb) w; have hpb := hP.pbB; have hB := hP.B; have hlen := hP.len; rw [show exprF c.ts c.n (k + 1) lv σ = climbF c.ts c.n k lv (primF c.ts c.n k σ).1 (primF c.ts c.n k σ).2 from by rw [exprF]]; have hu : Le c.ts σ (primF c.ts c.n k σ).2 := (good_F k).p.le c.ts c.n σ hP.at_
 have hf : 4 * mS c.ts σ + 3 ≤ k := by omega
 have hf2 : 4 * mS c.ts (primF c.ts c.n k σ).2 + 1 ≤ k := by have := mS_le hu; omega
 refine calls_in Tryz.func93 Tryz.ntmps93 rfl rfl ?_
 focus
  refine cS ?_; (refine lw_alloc' [_, _, _, _] zOk rfl rfl ?_; intro b1 w2 n3); have h5 := n3.blk; have x6 := n3.ext; have p7 := n3.pos; have z8 := n3.size; clear n3; replace hP := hP.ext x6; replace X := X.ext x6; clear x6; refine cN (cM rfl rfl ?_); refine cR (by kernel_rfl) rfl ((IH k (Nat.le_refl _)).p _ _ (by assumption) hf) (fun _ _ h => h.ret) rfl ?_; rintro _ w14 ⟨a9, ⟨k10, ⟨⟨⟩, ⟨h11, ⟨h12, f13⟩⟩⟩⟩⟩; have z15 := f13.size; replace h5 := h5.fr f13 (by omega); clear hP; replace X := X.fr f13 (by omega); clear f13; (refine lw_alloc' [_, _, _, _] zOk rfl rfl ?_; intro b16 w17 n18); (refine lw_init' [_, _, _, _] tabOk rfl rfl rfl rfl rfl rfl n18 rfl ?_; clear n18; clear w17; intro w19 n18); have h20 := n18.blk; have x21 := n18.ext; have p22 := n18.pos; have z23 := n18.size; clear n18; replace h11 := Nd.sits.ext h11 x21; replace h12 := h12.ext x21; replace h5 := h5.ext x21; replace X := X.ext x21; clear x21; refine cT (cw_block ?_); rotate_left 1
 refine cw_loop (ι := Nat × Nd × Option Addr × Nat × PS) (fun _ => [(0, .pointer (some ⟨c.pb, 0, none⟩)), (1, .int .i64 lv), (4, .pointer (some ⟨b1, 0, none⟩)), (5, .pointer (some ⟨b16, 0, none⟩))])
  (fun x w' => PPF c x.2.2.2.2 w' ∧ Blk w' b16 (x.2.1.cells x.2.2.1 x.2.2.2.1) ∧ x.2.1.sits (fun b => w.heap.size ≤ b ∧ b ≠ b1 ∧ b ≠ b16) w' x.2.2.1 ∧ Blk w' b1 [.int .u8 0, .int .i64 0, .string ⟨#[]⟩, .slice none 0 0] ∧ Fr (· = c.pb) w w' ∧ w19.heap.size ≤ w'.heap.size ∧
   climbF c.ts c.n k lv (primF c.ts c.n k σ).1 (primF c.ts c.n k σ).2 = climbF c.ts c.n x.1 lv x.2.1 x.2.2.2.2 ∧ 4 * mS c.ts x.2.2.2.2 + 1 ≤ x.1 ∧ x.1 ≤ k) (fun x => x.1) (k, (primF c.ts c.n k σ).1, a9, k10, (primF c.ts c.n k σ).2) (by (refine sub_cons rfl ?_; refine sub_cons rfl ?_; refine sub_cons rfl ?_; refine sub_cons rfl ?_; exact sub_nil))
  ⟨h12, h20, h11.wide (fun b h => ⟨by omega, by omega, by omega⟩), h5, X, Nat.le_refl _, rfl, hf2, Nat.le_refl _⟩ ?_
 rintro ⟨j, x, xa, xc, σ'⟩ w1 ⟨hP, h5, hs, h4, X, hz, he, hfj, hjk⟩; simp only at hP h5 hs he hfj hjk; rw [he]; clear he hu hf hf2 h20 h11; obtain ⟨j, rfl⟩ : ∃ i, j = i + 1 := ⟨j - 1, by omega⟩; have hg := getS_binF (peekP c.ts σ').text
 cases hb : binOf (peekP c.ts σ').text with
 | none =>
  rw [show climbF c.ts c.n (j + 1) lv x σ' = (x, σ') from by rw [climbF]; simp [hb]]; rw [hb] at hg; simp only [Option.map_none] at hg
  focus
   refine cw_block (cw_seq ?_); (refine cw_tdraw (fun wz => Ext w1 wz) 12 (.pure 0 (.pure 1 (.pure 2 (.pure 3 (.pure 4 (.fork 5 (.pure 6 (.pure 7 (.pure 8 (.pure 9 (.pure 10 (.pure 11 .tail)))))) .none)))))) mixed (by kernel_rfl) (panicOk_then (panicOk_block (panicOk_then (panicOk_block panicOk_body)))) ?_; intro wa1 xa2 _); have qsa3 : (fun wz => Ext w1 wz) wa1 := xa2; simp only at qsa3; have d_hP := hP; have d_h5 := h5; have d_hs := hs; have d_h4 := h4; have za4 := xa2.size; replace hP := hP.ext xa2; replace h5 := h5.ext xa2; replace hs := Nd.sits.ext hs xa2; replace h4 := h4.ext xa2; replace X := X.ext xa2; clear xa2; refine ⟨qsa3, ?_⟩; refine tw_pure rfl (pur_move rfl) rfl (tw_pure rfl (pur_nilCheck rfl) rfl (tw_pure rfl (pur_fieldAddr tabOk rfl rfl rfl) rfl (tw_pure rfl (pur_load tabOk rfl rfl rfl (fun wz hz => Blk.cell (Blk.ext (PPF.blk d_hP) hz) rfl)) rfl (tw_pure rfl (pur_move rfl) rfl ?_)))); refine tw_does rfl (does_call (by kernel_rfl) rfl (fpeek_c _ _ _ (by assumption)) (fun _ _ h => ⟨_, h.1⟩)) rfl ?_ (fun _ h => h) tw_none; rintro _ wa7 ⟨⟨⟩, xa6⟩; have za8 := xa6.size; replace qsa3 := qsa3.ext xa6; replace hP := hP.ext xa6; replace h5 := h5.ext xa6; replace hs := Nd.sits.ext hs xa6; replace h4 := h4.ext xa6; replace X := X.ext xa6; clear xa6; refine ⟨qsa3, ?_⟩; refine tw_pure rfl (pur_field tabOk rfl rfl rfl rfl rfl rfl) rfl ?_; refine tw_pure rfl (pur_look_none tabOk rfl rfl rfl rfl rfl (fun wz hz => MapIs.ext (PPF.map d_hP) hz) (by assumption)) rfl ?_; refine tw_pure rfl (pur_move rfl) rfl (tw_pure rfl (pur_extract rfl rfl) rfl (tw_pure rfl (pur_extract rfl rfl) rfl (tw_pure rfl (pur_assign rfl) rfl ?_)))
   clear d_hP d_h5 d_hs d_h4 qsa3; refine tw_tail rfl (cA rfl rfl (cT (cw_seq (cS (cM rfl rfl (lw_pure (pur_not rfl) rfl (cM rfl rfl (lw_off rfl rfl rfl (rfl) rfl (lw_off rfl rfl rfl (rfl) rfl (lw_off rfl rfl rfl (rfl) rfl (lw_off rfl rfl rfl (rfl) rfl ?_))))))))))); refine lw_pure (pur_pick_t rfl rfl rfl) rfl (cT (cw_cond_t rfl (cS (lw_loads_b' [_, _, _, _] tabOk rfl rfl rfl h5 rfl rfl rfl ?_)))); (refine lw_store' [_, _, _, _] [_, _, _, _] tabOk rfl rfl rfl rfl rfl rfl h4 rfl rfl ?_; intro wa9 na10); have ha13 := na10.blk; have fa11 := na10.fr; have za12 := na10.size; clear na10 h4; replace hP := hP.fr fa11 (by omega); replace h5 := h5.fr fa11 (by omega); replace hs := Nd.sits.fr hs fa11 (by omega); replace X := X.fr fa11 (by omega); clear fa11; refine cT (cw_ret (qw_then_ret (qw_block_ret (qw_then_ret (qw_block_ret (qw_retc rfl tabOk rfl rfl rfl ha13 rfl ?_)))))); rotate_left 1
  exact treeF_ret (Nd.sits.wide hs (fun b h => h.1)) (by assumption) X
 | some op =>
  rw [hb] at hg; simp only [Option.map_some] at hg; obtain ⟨hne, o1, o2, -⟩ := binOf_ne hb; obtain ⟨hin, hin2⟩ := peek_in hP.at_ (Or.inl hne); have hm := mS_next (ts := c.ts) (σ := σ') ⟨hin, hin2⟩; have hlv := level_bd o1 o2
  by_cases hl : level op < lv
  · rw [show climbF c.ts c.n (j + 1) lv x σ' = (x, σ') from by rw [climbF]; simp [hb, hl]]
    focus
     refine cw_block (cw_seq ?_); (refine cw_tdraw (fun wz => Ext w1 wz) 12 (.pure 0 (.pure 1 (.pure 2 (.pure 3 (.pure 4 (.fork 5 (.pure 6 (.pure 7 (.pure 8 (.pure 9 (.pure 10 (.pure 11 .tail)))))) .none)))))) mixed (by kernel_rfl) (panicOk_then (panicOk_block (panicOk_then (panicOk_block panicOk_body)))) ?_; intro wb1 xb2 _); have qsb3 : (fun wz => Ext w1 wz) wb1 := xb2; simp only at qsb3; have d_hP := hP; have d_h5 := h5; have d_hs := hs; have d_h4 := h4; have zb4 := xb2.size; replace hP := hP.ext xb2; replace h5 := h5.ext xb2; replace hs := Nd.sits.ext hs xb2; replace h4 := h4.ext xb2; replace X := X.ext xb2; clear xb2; refine ⟨qsb3, ?_⟩; refine tw_pure rfl (pur_move rfl) rfl (tw_pure rfl (pur_nilCheck rfl) rfl (tw_pure rfl (pur_fieldAddr tabOk rfl rfl rfl) rfl (tw_pure rfl (pur_load tabOk rfl rfl rfl (fun wz hz => Blk.cell (Blk.ext (PPF.blk d_hP) hz) rfl)) rfl (tw_pure rfl (pur_move rfl) rfl ?_)))); refine tw_does rfl (does_call (by kernel_rfl) rfl (fpeek_c _ _ _ (by assumption)) (fun _ _ h => ⟨_, h.1⟩)) rfl ?_ (fun _ h => h) tw_none; rintro _ wb7 ⟨⟨⟩, xb6⟩; have zb8 := xb6.size; replace qsb3 := qsb3.ext xb6; replace hP := hP.ext xb6; replace h5 := h5.ext xb6; replace hs := Nd.sits.ext hs xb6; replace h4 := h4.ext xb6; replace X := X.ext xb6; clear xb6; refine ⟨qsb3, ?_⟩; refine tw_pure rfl (pur_field tabOk rfl rfl rfl rfl rfl rfl) rfl ?_; refine tw_pure rfl (pur_look_some tabOk rfl rfl rfl rfl rfl (fun wz hz => MapIs.ext (PPF.map d_hP) hz) (by assumption)) rfl ?_; refine tw_pure rfl (pur_move rfl) rfl (tw_pure rfl (pur_extract rfl rfl) rfl (tw_pure rfl (pur_extract rfl rfl) rfl (tw_pure rfl (pur_assign rfl) rfl ?_)))
     clear d_hP d_h5 d_hs d_h4 qsb3; refine tw_tail rfl (cA rfl rfl (cT (cw_seq (cS (cM rfl rfl (lw_pure (pur_not rfl) rfl (cM rfl rfl (lw_on rfl rfl rfl (rfl) (cM rfl rfl (lw_on rfl rfl rfl (rfl) ?_)))))))))); refine cC (by kernel_rfl) rfl (arith_Level_c _ _ (by omega) (by omega)) rfl ?_; rintro _ wb9 ⟨⟨⟩, rfl⟩; refine lw_on rfl rfl rfl (rfl) (cM rfl rfl (lw_on rfl rfl rfl (rfl) (lw_pure (pur_lss rfl rfl) rfl (lw_pure (pur_pick_f rfl rfl rfl) rfl (cT ?_))))); refine cw_yes rfl (by assumption) ?_; refine cS (lw_loads_b' [_, _, _, _] tabOk rfl rfl rfl h5 rfl rfl rfl ?_); (refine lw_store' [_, _, _, _] [_, _, _, _] tabOk rfl rfl rfl rfl rfl rfl h4 rfl rfl ?_; intro wb10 nb11); have hb14 := nb11.blk; have fb12 := nb11.fr; have zb13 := nb11.size; clear nb11 h4; replace hP := hP.fr fb12 (by omega); replace h5 := h5.fr fb12 (by omega); replace hs := Nd.sits.fr hs fb12 (by omega); replace X := X.fr fb12 (by omega); clear fb12; refine cT (cw_ret (qw_then_ret (qw_block_ret (qw_then_ret (qw_block_ret (qw_retc rfl tabOk rfl rfl rfl hb14 rfl ?_)))))); rotate_left 1
    exact treeF_ret (Nd.sits.wide hs (fun b h => h.1)) (by assumption) X
  · rw [show climbF c.ts c.n (j + 1) lv x σ' = climbF c.ts c.n j lv (.mk 82 op [] [x, (exprF c.ts c.n j (level op + 1) (nextP σ')).1]) (exprF c.ts c.n j (level op + 1) (nextP σ')).2 from by rw [climbF]; simp [hb, hl]]
    have hfe : 4 * mS c.ts (nextP σ') + 4 ≤ j := by omega
    have hle := exprF_le' (n := c.n) (k := j) (lv := level op + 1) (σ := nextP σ') hin2; have hml := mS_le hle
    focus
     refine cw_block (cw_seq ?_); (refine cw_tdraw (fun wz => Ext w1 wz) 12 (.pure 0 (.pure 1 (.pure 2 (.pure 3 (.pure 4 (.fork 5 (.pure 6 (.pure 7 (.pure 8 (.pure 9 (.pure 10 (.pure 11 .tail)))))) .none)))))) mixed (by kernel_rfl) (panicOk_then (panicOk_block (panicOk_then (panicOk_block panicOk_body)))) ?_; intro wc1 xc2 _); have qsc3 : (fun wz => Ext w1 wz) wc1 := xc2; simp only at qsc3; have d_hP := hP; have d_h5 := h5; have d_hs := hs; have d_h4 := h4; have zc4 := xc2.size; replace hP := hP.ext xc2; replace h5 := h5.ext xc2; replace hs := Nd.sits.ext hs xc2; replace h4 := h4.ext xc2; replace X := X.ext xc2; clear xc2; refine ⟨qsc3, ?_⟩; refine tw_pure rfl (pur_move rfl) rfl (tw_pure rfl (pur_nilCheck rfl) rfl (tw_pure rfl (pur_fieldAddr tabOk rfl rfl rfl) rfl (tw_pure rfl (pur_load tabOk rfl rfl rfl (fun wz hz => Blk.cell (Blk.ext (PPF.blk d_hP) hz) rfl)) rfl (tw_pure rfl (pur_move rfl) rfl ?_)))); refine tw_does rfl (does_call (by kernel_rfl) rfl (fpeek_c _ _ _ (by assumption)) (fun _ _ h => ⟨_, h.1⟩)) rfl ?_ (fun _ h => h) tw_none; rintro _ wc7 ⟨⟨⟩, xc6⟩; have zc8 := xc6.size; replace qsc3 := qsc3.ext xc6; replace hP := hP.ext xc6; replace h5 := h5.ext xc6; replace hs := Nd.sits.ext hs xc6; replace h4 := h4.ext xc6; replace X := X.ext xc6; clear xc6; refine ⟨qsc3, ?_⟩; refine tw_pure rfl (pur_field tabOk rfl rfl rfl rfl rfl rfl) rfl ?_; refine tw_pure rfl (pur_look_some tabOk rfl rfl rfl rfl rfl (fun wz hz => MapIs.ext (PPF.map d_hP) hz) (by assumption)) rfl ?_; refine tw_pure rfl (pur_move rfl) rfl (tw_pure rfl (pur_extract rfl rfl) rfl (tw_pure rfl (pur_extract rfl rfl) rfl (tw_pure rfl (pur_assign rfl) rfl ?_)))
     clear d_hP d_h5 d_hs d_h4 qsc3; refine tw_tail rfl (cA rfl rfl (cT (cw_seq (cS (cM rfl rfl (lw_pure (pur_not rfl) rfl (cM rfl rfl (lw_on rfl rfl rfl (rfl) (cM rfl rfl (lw_on rfl rfl rfl (rfl) ?_)))))))))); refine cC (by kernel_rfl) rfl (arith_Level_c _ _ (by omega) (by omega)) rfl ?_; rintro _ wc9 ⟨⟨⟩, rfl⟩; refine lw_on rfl rfl rfl (rfl) (cM rfl rfl (lw_on rfl rfl rfl (rfl) (lw_pure (pur_lss rfl rfl) rfl (lw_pure (pur_pick_f rfl rfl rfl) rfl (cT ?_))))); refine cw_no rfl (by assumption) ?_; refine cw_skip (qw_then (cS (cM rfl rfl (lw_pure (pur_nilCheck rfl) rfl (lw_pure (pur_fieldAddr tabOk rfl rfl rfl) rfl (lw_load_b tabOk rfl rfl rfl (PPF.blk hP) rfl rfl ?_)))))); refine lw_pure (pur_add rfl rfl (IntWalk.i64_in _ (by omega))) rfl ?_; refine lw_pure (pur_nilCheck rfl) rfl (lw_pure (pur_fieldAddr tabOk rfl rfl rfl) rfl ?_); refine lw_ppf_at tabOk rfl rfl rfl rfl (by assumption) hin2 ?_; rintro wc10 hc11 fc12; have zc13 := fc12.size; clear hP; replace h5 := h5.fr fc12 (by omega); replace hs := Nd.sits.fr hs fc12 (by omega); replace h4 := h4.fr fc12 (by omega); replace X := X.fr fc12 (by omega); clear fc12; refine cN (cM rfl rfl (cM rfl rfl ?_)); refine cC (by kernel_rfl) rfl (arith_Level_c _ _ (by omega) (by omega)) rfl ?_; rintro _ wc14 ⟨⟨⟩, rfl⟩; refine lw_pure (pur_add rfl rfl (IntWalk.i64_in _ (by omega))) rfl ?_; refine cR (by kernel_rfl) rfl ((IH j (by omega)).e _ _ _ (by assumption) hfe (by omega) (by omega)) (fun _ _ h => h.ret) rfl ?_; rintro _ wc20 ⟨ac15, ⟨kc16, ⟨⟨⟩, ⟨hc17, ⟨hc18, fc19⟩⟩⟩⟩⟩
     have zc21 := fc19.size; clear hc11; replace h5 := h5.fr fc19 (by omega); replace hs := Nd.sits.fr hs fc19 (by omega); replace h4 := h4.fr fc19 (by omega); replace X := X.fr fc19 (by omega); clear fc19; (refine lw_alloc' [_, _, _, _] zOk rfl rfl ?_; intro bc22 wc23 nc24); (refine lw_init' [_, _, _, _] tabOk rfl rfl rfl rfl rfl rfl nc24 rfl ?_; clear nc24; clear wc23; intro wc25 nc24); have hc26 := nc24.blk; have xc27 := nc24.ext; have pc28 := nc24.pos; have zc29 := nc24.size; clear nc24; replace hc17 := Nd.sits.ext hc17 xc27; replace hc18 := hc18.ext xc27; replace h5 := h5.ext xc27; replace hs := Nd.sits.ext hs xc27; replace h4 := h4.ext xc27; replace X := X.ext xc27; clear xc27; refine cT (cw_region (cM rfl rfl ?_)); refine lw_pure (pur_conv tabOk rfl rfl rfl (IntWalk.i64_in _ (by omega))) rfl ?_; refine lw_loads_b' [_, _, _, _] tabOk rfl rfl rfl h5 rfl rfl rfl (lw_loads_b' [_, _, _, _] tabOk rfl rfl rfl hc26 rfl rfl rfl ?_); (refine lw_does (does_slice' [_, _, _, _, _, _, _, _] tabOk zOk rfl rfl rfl rfl rfl rfl rfl rfl rfl) rfl ?_ (fun _ h => h); rintro _ wc31 ⟨bc30, rfl, nc32, tc33⟩); clear tc33; have hc34 := nc32.blk; have xc35 := nc32.ext; have pc36 := nc32.pos; have zc37 := nc32.size; clear nc32; replace hc26 := hc26.ext xc35; replace hc17 := Nd.sits.ext hc17 xc35; replace hc18 := hc18.ext xc35; replace h5 := h5.ext xc35; replace hs := Nd.sits.ext hs xc35; replace h4 := h4.ext xc35; replace X := X.ext xc35; clear xc35; refine lw_pure (pur_build' [_, _, _, _] tabOk zOk rfl rfl rfl rfl) rfl ?_
     (refine lw_store' [_, _, _, _] [_, _, _, _] tabOk rfl rfl rfl rfl rfl rfl h5 rfl rfl ?_; intro wc38 nc39); have hc42 := nc39.blk; have fc40 := nc39.fr; have zc41 := nc39.size; clear nc39 h5; replace hc34 := hc34.fr fc40 (by omega); replace hc26 := hc26.fr fc40 (by omega); replace hc17 := Nd.sits.fr hc17 fc40 (by omega); replace hc18 := hc18.fr fc40 (by omega); replace hs := Nd.sits.fr hs fc40 (by omega); replace h4 := h4.fr fc40 (by omega); replace X := X.fr fc40 (by omega); clear fc40; refine lw_nil (qw_block_norm ?_); rotate_left 1
    refine qw_round (j, .mk 82 op [] [x, (exprF c.ts c.n j (level op + 1) (nextP σ')).1], some ⟨_, 0, none⟩, 2, (exprF c.ts c.n j (level op + 1) (nextP σ')).2) (by (refine sub_cons rfl ?_; refine sub_cons rfl ?_; refine sub_cons rfl ?_; refine sub_cons rfl ?_; exact sub_nil)) ⟨by assumption, by assumption, sits_2 (by assumption) ⟨by omega, by omega, by omega⟩ hs (fun b h => h) (by assumption) (fun b h => ⟨by omega, by omega, by omega⟩), by assumption, X, by omega, rfl, by simp only; omega, by simp only; omega⟩ (by simp)
theorem exprs_fc (c : PCF) (k : Nat) : ExprsFC c k := by
 induction k using Nat.strongRecOn with
 | _ k ih =>
  cases k with
  | zero => exact ⟨fun _ _ _ _ h => by omega, fun _ _ _ h => by omega, fun _ _ _ h h2 => by omega, fun _ _ _ h h2 => by omega, fun _ _ _ h => by omega, fun _ _ _ h => by omega, fun _ _ _ h => by omega, fun _ _ _ h => by omega⟩
  | succ k =>
   have IH : ∀ j, j ≤ k → ExprsFC c j := fun j hj => ih j (by omega)
   exact ⟨expr_fw c k IH, primary_fw c k IH, choice_fw c k IH, binding_fw c k IH, named_fw c k IH, args1_fw c k IH, args2_fw c k IH, block_fw c k IH⟩
end Bk
namespace Bk
open Go
def fnumSZ (z : Pr Nd) : Pr Nd := fun ts n σ => if startsDigit (peekP ts σ).text then fnumS ts σ else z ts n σ
theorem good_fnumSZ {z : Pr Nd} (hz : Good z) : Good (fnumSZ z) := by
 have gl : ∀ (ts : List Tok) (n : Int) (σ : PS), σ.at_ ≤ ts.length → Le ts σ (fnumSZ z ts n σ).2 := fun ts n σ h => by
  unfold fnumSZ
  split
  · rename_i hh
    have hn := peek_in h (Or.inl (startsDigit_ne hh))
    unfold fnumS
    split
    · exact next_le hn
    · exact fail_le h _ _
  · exact hz.le ts n σ h
 have gf : ∀ (ts : List Tok) (n : Int) (σ : PS), σ.at_ = ts.length → (fnumSZ z ts n σ).2 = σ ∨ (fnumSZ z ts n σ).2 = unexpP ts n σ := fun ts n σ h => by
  unfold fnumSZ
  rw [peek_end h, if_neg (by decide)]
  exact hz.fin ts n σ h
 refine ⟨gl, gf, fun ts us n m c Q S σ τ q => ?_⟩
 rcases S.syn σ τ q with d | s
 · exact Or.inr (d.of (gl _ _ _ d.w) (gl _ _ _ d.v) (gf us m τ))
 · obtain ⟨w1, w2⟩ := S.wf σ τ q
   unfold fnumSZ
   rw [← s.text]
   by_cases hk : startsDigit (peekP ts σ).text = true
   · have i1 := peek_in w1 (Or.inl (startsDigit_ne hk))
     have i2 := peek_in w2 (Or.inl (by rw [← s.text]; exact startsDigit_ne hk)); rw [if_pos hk, if_pos hk]
     unfold fnumS
     rw [← s.text]
     split
     · exact Or.inl ⟨rfl, s.next i1 i2⟩
     · exact Or.inl ⟨rfl, s.full 2 i1 i2⟩
   · rw [if_neg hk, if_neg hk]
     exact hz.sim ts us n m c Q S _ _ q
def ifT (e b : Pr Nd) : Pr Nd := bindP e (fun c => bindP b (fun x => bindP (expP [101, 108, 115, 101]) (fun _ => bindP b (fun y => retP (Nd.mk 83 0 [] [c, x, y])))))
def letT (e b : Pr Nd) : Pr Nd := bindP (fun ts n σ => nameP ts n σ) (fun m => bindP (expP [61]) (fun _ => bindP e (fun v => bindP b (fun y => retP (Nd.mk 84 0 m [v, y])))))
def argsT (r : Pr (List Nd)) (least : Nat) : Pr (List Nd) := rdP (fun _ t => decide (least = 0) && decide (t = [41])) (fun _ _ => retP []) (fun _ _ => bindP r (fun l => bindP (if l.length < least then unP () else retP ()) (fun _ => bindP (expP [41]) (fun _ => retP l))))
def listC (e : Pr Nd) (r : List Nd → Pr (List Nd)) (least : Nat) (acc : List Nd) : Pr (List Nd) := erP (retP acc) (bindP e (fun a => if 0 < least ∧ acc.length + 1 = least then retP (acc ++ [a]) else rdP (eqF [44]) (fun _ _ => r (acc ++ [a])) (fun _ _ => retP (acc ++ [a]))))
def namedT (a0 : Pr (List Nd)) : Pr Nd := bindP (fun ts n σ => nameP ts n σ) (fun m => rdP (eqF [40]) (fun _ _ => bindP a0 (fun l => retP (Nd.mk 85 0 m l))) (fun _ _ => retP (Nd.mk 81 0 m [])))
def primT (e p i l d : Pr Nd) (a1 a2 : Pr (List Nd)) (num : Pr Nd → Pr Nd) : Pr Nd :=
 rdP (eqF [91]) (fun _ _ => bindP (expP [93]) (fun _ => retP (Nd.mk 86 0 [] []))) (fun _ _ =>
 rdP (eqF [112, 117, 115, 104]) (fun _ _ => bindP a2 (fun x => retP (Nd.mk 87 0 [] x))) (fun _ _ =>
 rdP (eqF [112, 111, 112]) (fun _ _ => bindP a1 (fun x => retP (Nd.mk 89 0 [] x))) (fun _ _ =>
 rdP (eqF [116, 111, 112]) (fun _ _ => bindP a1 (fun x => retP (Nd.mk 88 0 [] x))) (fun _ _ =>
 rdP (eqF [33]) (fun _ _ => bindP p (fun x => retP (Nd.mk 90 0 [] [x]))) (fun _ _ =>
 rdP (eqF [105, 102]) (fun _ _ => i) (fun _ _ => rdP (eqF [108, 111, 99, 97, 108]) (fun _ _ => l) (fun _ _ =>
  rdP (eqF [40]) (fun _ _ => bindP e (fun x => bindP (expP [41]) (fun _ => retP x))) (fun _ _ => num d))))))))
theorem exprS_at (k : Nat) (lv : Int) (ts : List Tok) (n : Int) (σ : PS) : exprS ts n (k + 1) lv σ = (if 8 < lv then fun ts n σ => primS ts n k σ else bindP (fun ts n σ => exprS ts n k (lv + 1) σ) (fun x ts n σ => loopS ts n k lv x σ)) ts n σ := by
 rw [exprS]
 split <;> rfl
theorem loopS_at (k : Nat) (lv : Int) (x : Nd) (ts : List Tok) (n : Int) (σ : PS) : loopS ts n (k + 1) lv x σ = erP (retP x) (rdP (fun _ t => match binOf t with | none => false | some op => decide (level op = lv)) (fun _ t => match binOf t with | none => retP x | some op => bindP (fun ts n σ => exprS ts n k (lv + 1) σ) (fun y ts n σ => loopS ts n k lv (.mk 82 op [] [x, y]) σ)) (fun _ _ => retP x)) ts n σ := by
 rw [loopS]
 unfold erP
 split
 · rfl
 · unfold rdP
   cases ho : binOf (peekP ts σ).text with
   | none => simp only [ho]; rfl
   | some op =>
    by_cases hl : level op = lv
    · simp only [ho, hl, decide_true, if_true, ne_eq, not_true, if_false]; rfl
    · simp only [ho, hl, decide_false, Bool.false_eq_true, if_false, ne_eq, not_false_iff, if_true]; rfl
theorem argsS_at (k least : Nat) (ts : List Tok) (n : Int) (σ : PS) : argsS ts n (k + 1) least σ = bindP (expP [40]) (fun _ => argsT (fun ts n σ => listS ts n k least [] σ) least) ts n σ := by
 rw [argsS]; simp only [exp_at]
 unfold argsT bindP rdP
 dsimp only
 by_cases h : least = 0 ∧ hasP ts (expP [40] ts n σ).2 [41] = true
 · have h' : (decide (least = 0) && decide ((peekP ts (expP [40] ts n σ).2).text = [41])) = true := by
    rw [Bool.and_eq_true]; exact ⟨decide_eq_true h.1, h.2⟩
   rw [if_pos h, if_pos h']; rfl
 · have h' : ¬ (decide (least = 0) && decide ((peekP ts (expP [40] ts n σ).2).text = [41])) = true := by
    rw [Bool.and_eq_true]; exact fun e => h ⟨of_decide_eq_true e.1, e.2⟩
   rw [if_neg h, if_neg h']
   by_cases hl : (listS ts n k least [] (expP [40] ts n σ).2).1.length < least
   · rw [if_pos hl, if_pos hl]; rfl
   · rw [if_neg hl, if_neg hl]; rfl
theorem listS_at (k least : Nat) (acc : List Nd) (ts : List Tok) (n : Int) (σ : PS) : listS ts n (k + 1) least acc σ = listC (fun ts n σ => exprS ts n k 1 σ) (fun a ts n σ => listS ts n k least a σ) least acc ts n σ := by
 rw [listS]
 unfold listC erP
 split
 · rfl
 · unfold bindP
   dsimp only
   by_cases h : 0 < least ∧ acc.length + 1 = least
   · rw [if_pos h, if_pos h]; rfl
   · rw [if_neg h, if_neg h]; rfl
theorem braceS_at (k : Nat) (ts : List Tok) (n : Int) (σ : PS) : braceS ts n (k + 1) σ = braceC (fun ts n σ => exprS ts n k 1 σ) ts n σ := by rw [braceS]; simp only [exp_at]; rfl
def namedQ (a0 : Pr (List Nd)) : Pr Nd := bindP (fun ts n σ => nameP ts n σ) (fun m => teP (eqF [40]) (bindP a0 (fun l => retP (Nd.mk 85 0 m l))) (retP (Nd.mk 81 0 m [])))
theorem primS_at (k : Nat) (ts : List Tok) (n : Int) (σ : PS) : primS ts n (k + 1) σ = primT (fun ts n σ => exprS ts n k 1 σ) (fun ts n σ => primS ts n k σ) (ifT (fun ts n σ => exprS ts n k 1 σ) (fun ts n σ => braceS ts n k σ)) (letT (fun ts n σ => exprS ts n k 1 σ) (fun ts n σ => braceS ts n k σ)) (namedQ (fun ts n σ => argsS ts n k 0 σ)) (fun ts n σ => argsS ts n k 1 σ) (fun ts n σ => argsS ts n k 2 σ) fnumSZ ts n σ := by
 rw [primS]; simp only [exp_at]
 unfold primT
 by_cases hs : startsDigit (peekP ts σ).text = true
 · have hne : ∀ t, startsDigit t = false → ¬ decide ((peekP ts σ).text = t) = true := fun t ht e => by rw [of_decide_eq_true e, ht] at hs; cases hs
   rw [if_pos hs]
   unfold rdP
   dsimp only; rw [if_neg (hne [91] (by decide)), if_neg (hne [112, 117, 115, 104] (by decide)), if_neg (hne [112, 111, 112] (by decide)), if_neg (hne [116, 111, 112] (by decide)), if_neg (hne [33] (by decide)), if_neg (hne [105, 102] (by decide)), if_neg (hne [108, 111, 99, 97, 108] (by decide)), if_neg (hne [40] (by decide))]
   unfold fnumSZ
   rw [if_pos hs]
 · rw [if_neg hs]
   have hlast : (if (peekP ts (nameP ts n σ).2).text = [40] then ((.mk 85 0 (nameP ts n σ).1 (argsS ts n k 0 (nameP ts n σ).2).1, (argsS ts n k 0 (nameP ts n σ).2).2) : Nd × PS) else (.mk 81 0 (nameP ts n σ).1 [], (nameP ts n σ).2)) = fnumSZ (namedQ (fun ts n σ => argsS ts n k 0 σ)) ts n σ := by
    unfold fnumSZ
    rw [if_neg hs]
    unfold namedQ bindP teP
    dsimp only
    by_cases h : (peekP ts (nameP ts n σ).2).text = [40]
    · rw [if_pos h, if_pos (decide_eq_true h)]; rfl
    · rw [if_neg h, if_neg (by simpa using h)]; rfl
   rw [hlast]
   rfl
structure GoodS (k : Nat) : Prop where
 e : ∀ lv, Good (fun ts n σ => exprS ts n k lv σ)
 c : ∀ lv x, Good (fun ts n σ => loopS ts n k lv x σ)
 p : Good (fun ts n σ => primS ts n k σ)
 a : ∀ least, Good (fun ts n σ => argsS ts n k least σ)
 b : Good (fun ts n σ => braceS ts n k σ)
 m : ∀ least acc, Good (fun ts n σ => listS ts n k least acc σ)
section
variable {e p i l d b : Pr Nd} {a1 a2 r0 : Pr (List Nd)} {r : List Nd → Pr (List Nd)} {num : Pr Nd → Pr Nd}
theorem good_ifT (he : Good e) (hb : Good b) : Good (ifT e b) := Good.bind he (fun _ => Good.bind hb (fun _ => Good.bind (good_exp (by decide)) (fun _ => Good.bind hb (fun _ => Good.ret _))))
theorem good_letT (he : Good e) (hb : Good b) : Good (letT e b) := Good.bind good_name (fun _ => Good.bind (good_exp (by decide)) (fun _ => Good.bind he (fun _ => Good.bind hb (fun _ => Good.ret _))))
theorem good_argsT (hr : Good r0) (least : Nat) : Good (argsT r0 least) := Good.rd (by simp) (fun _ _ => Good.ret _) (fun _ _ => Good.bind hr (fun l => by
 refine Good.bind ?_ (fun _ => Good.bind (good_exp (by decide)) (fun _ => Good.ret _))
 split
 · exact Good.un _
 · exact Good.ret _))
theorem good_listC (he : Good e) (hr : ∀ a, Good (r a)) (least : Nat) (acc : List Nd) : Good (listC e r least acc) := Good.er (Good.ret _) (Good.bind he (fun a => by
 split
 · exact Good.ret _
 · exact Good.rd (eqF_nil (by decide)) (fun _ _ => hr _) (fun _ _ => Good.ret _)))
theorem good_primT (he : Good e) (hp : Good p) (hi : Good i) (hl : Good l) (hd : Good (num d)) (h1 : Good a1) (h2 : Good a2) : Good (primT e p i l d a1 a2 num) :=
 Good.rd (eqF_nil (by decide)) (fun _ _ => Good.bind (good_exp (by decide)) (fun _ => Good.ret _)) (fun _ _ =>
 Good.rd (eqF_nil (by decide)) (fun _ _ => Good.bind h2 (fun _ => Good.ret _)) (fun _ _ =>
 Good.rd (eqF_nil (by decide)) (fun _ _ => Good.bind h1 (fun _ => Good.ret _)) (fun _ _ =>
 Good.rd (eqF_nil (by decide)) (fun _ _ => Good.bind h1 (fun _ => Good.ret _)) (fun _ _ =>
 Good.rd (eqF_nil (by decide)) (fun _ _ => Good.bind hp (fun _ => Good.ret _)) (fun _ _ =>
 Good.rd (eqF_nil (by decide)) (fun _ _ => hi) (fun _ _ => Good.rd (eqF_nil (by decide)) (fun _ _ => hl) (fun _ _ => Good.rd (eqF_nil (by decide)) (fun _ _ => Good.bind he (fun _ => Good.bind (good_exp (by decide)) (fun _ => Good.ret _))) (fun _ _ => hd))))))))
end
theorem good_namedQ {r0 : Pr (List Nd)} (h : Good r0) : Good (namedQ r0) := Good.bind good_name (fun _ => Good.te (Good.bind h (fun _ => Good.ret _)) (Good.ret _))
theorem good_S (k : Nat) : GoodS k := by
 induction k with
 | zero =>
  exact ⟨fun lv => Good.congr (fun ts n σ => by rw [exprS]; rfl) (Good.ret (Nd.mk 0 0 [] [])), fun lv x => Good.congr (fun ts n σ => by rw [loopS]; rfl) (Good.ret x), Good.congr (fun ts n σ => by rw [primS]; rfl) (Good.ret (Nd.mk 0 0 [] [])),
   fun least => Good.congr (fun ts n σ => by rw [argsS]; rfl) (Good.ret []), Good.congr (fun ts n σ => by rw [braceS]; rfl) (Good.ret (Nd.mk 0 0 [] [])), fun least acc => Good.congr (fun ts n σ => by rw [listS]; rfl) (Good.ret acc)⟩
 | succ k ih =>
  refine ⟨fun lv => Good.congr (exprS_at k lv) ?_, fun lv x => Good.congr (loopS_at k lv x) (Good.er (Good.ret _) (Good.rd (by rw [bin_nil0]) (fun _ t => ?_) (fun _ _ => Good.ret _))), Good.congr (primS_at k) (good_primT (ih.e 1) ih.p (good_ifT (ih.e 1) ih.b) (good_letT (ih.e 1) ih.b) (good_fnumSZ (good_namedQ (ih.a 0))) (ih.a 1) (ih.a 2)),
   fun least => Good.congr (argsS_at k least) (Good.bind (good_exp (by decide)) (fun _ => good_argsT (ih.m _ _) least)), Good.congr (braceS_at k) (good_braceC (ih.e 1)), fun least acc => Good.congr (listS_at k least acc) (good_listC (ih.e 1) (fun a => ih.m least a) least acc)⟩
  · split
    · exact ih.p
    · exact Good.bind (ih.e _) (fun x => ih.c lv x)
  · cases binOf t with
    | none => exact Good.ret _
    | some op => exact Good.bind (ih.e _) (fun y => ih.c lv _)
section
variable {ts : List Tok} {n : Int} {m : Nat}
theorem RQ.refl {α : Type} (p : Pr α) : RQ ts n m p p := fun _ _ _ => REq.refl _
theorem RQ.mono {α : Type} {p q : Pr α} {m' : Nat} (h : RQ ts n m p q) (hm : m' ≤ m) : RQ ts n m' p q := fun σ hw h' => h σ hw (Nat.le_trans h' hm)
theorem RQ.congr {α : Type} {p p' q q' : Pr α} (hp : ∀ ts n σ, p ts n σ = p' ts n σ) (hq : ∀ ts n σ, q ts n σ = q' ts n σ) (h : RQ ts n m p' q') : RQ ts n m p q := fun σ hw hm => by rw [hp, hq]; exact h σ hw hm
theorem RQ.bind {α β : Type} {p q : Pr α} {f g : α → Pr β} (hp : RQ ts n m p q) (gp : Good p) (gq : Good q) (gf : ∀ x, Good (f x)) (gg : ∀ x, Good (g x)) (hf : ∀ x, RQ ts n m (f x) (g x)) : RQ ts n m (bindP p f) (bindP q g) := fun σ hw hm => by
 have l := gp.le ts n σ hw; have l' := gq.le ts n σ hw; refine REq.bind (hp σ hw hm) (f := fun a => f a.1 ts n a.2) (g := fun b => g b.1 ts n b.2) (fun e => ((gf _).le ts n _ l.wf).err e) (fun e => ((gg _).le ts n _ l'.wf).err e) (fun e hab => ?_); rw [← hab]
 exact hf _ _ l.wf (Nat.le_trans (mS_le l) hm)
theorem RQ.bindL {α β : Type} {p q : Pr α} {f g : α → Pr β} (hp : RQ ts n m p q) (gp : Good p) (gq : Good q) (lp : LtP p) (gf : ∀ x, Good (f x)) (gg : ∀ x, Good (g x)) (hf : ∀ x, RQ ts n (m - 1) (f x) (g x)) : RQ ts n m (bindP p f) (bindP q g) := fun σ hw hm => by
 have l := gp.le ts n σ hw; have l' := gq.le ts n σ hw; refine REq.bind (hp σ hw hm) (f := fun a => f a.1 ts n a.2) (g := fun b => g b.1 ts n b.2) (fun e => ((gf _).le ts n _ l.wf).err e) (fun e => ((gg _).le ts n _ l'.wf).err e) (fun e hab => ?_); rw [← hab]; have := mS_lt l (lp ts n σ hw)
 exact hf _ _ l.wf (by omega)
theorem RQ.rd {α : Type} {c : Int → List UInt8 → Bool} {y z y' z' : Int → List UInt8 → Pr α} (hc : c 0 [] = false) (hy : 1 ≤ m → ∀ k t, RQ ts n (m - 1) (y k t) (y' k t)) (hz : ∀ k t, RQ ts n m (z k t) (z' k t)) : RQ ts n m (rdP c y z) (rdP c y' z') := fun σ hw hm => by
 unfold rdP
 split
 · rename_i hh
   have i := rd_in hc hw hh; have := mS_next i
   exact hy (by omega) _ _ _ (next_le i).wf (by omega)
 · exact hz _ _ σ hw hm
theorem REq.bad {α : Type} {p q : Pr α} (gp : Good p) (gq : Good q) {σ : PS} (hw : σ.at_ ≤ ts.length) (e : σ.err ≠ 0) : REq (p ts n σ) (q ts n σ) := by
 have h1 := (gp.le ts n σ hw).err e; have h2 := (gq.le ts n σ hw).err e
 exact ⟨by rw [h1, h2], by rw [h1, h2], fun z => absurd (by rw [h1] at z; exact z) e⟩
theorem RQ.un {α β γ : Type} {f : α → Pr γ} {g : β → Pr γ} (x : α) (y : β) (gf : ∀ x, Good (f x)) (gg : ∀ x, Good (g x)) : RQ ts n m (bindP (unP x) f) (bindP (unP y) g) := fun σ hw hm => by
 have l := unexp_le (n := n) hw
 exact REq.bad (gf x) (gg y) l.wf unexp_err
end
end Bk
namespace Bk
open Go
section
variable {ts : List Tok} {n : Int}
structure SameF (ts : List Tok) (n : Int) (m : Nat) : Prop where
 e : ∀ (lv : Int) (k k' : Nat), 1 ≤ lv → lv ≤ 9 → 4 * m + 4 ≤ k → 12 * (m : Int) + 12 - lv ≤ (k' : Int) → RQ ts n m (fun ts n σ => exprF ts n k lv σ) (fun ts n σ => exprS ts n k' lv σ)
 p : ∀ (k k' : Nat), 4 * m + 3 ≤ k → 12 * m + 2 ≤ k' → RQ ts n m (fun ts n σ => primF ts n k σ) (fun ts n σ => primS ts n k' σ)
theorem SameF.e1 {m : Nat} (h : SameF ts n m) {k k' : Nat} (hk : 4 * m + 4 ≤ k) (hk' : 12 * m + 11 ≤ k') : RQ ts n m (fun ts n σ => exprF ts n k 1 σ) (fun ts n σ => exprS ts n k' 1 σ) := h.e 1 k k' (by omega) (by omega) hk (by omega)
theorem SameF.b {m : Nat} (h : SameF ts n (m - 1)) {k k' : Nat} (hk : 4 * m + 5 ≤ k) (hk' : 12 * m + 12 ≤ k') : RQ ts n m (fun ts n σ => braceF ts n k σ) (fun ts n σ => braceS ts n k' σ) := by
 obtain ⟨k, rfl⟩ : ∃ j, k = j + 1 := ⟨k - 1, by omega⟩; obtain ⟨k', rfl⟩ : ∃ j, k' = j + 1 := ⟨k' - 1, by omega⟩; refine RQ.congr (braceF_at k) (braceS_at k') ?_; have g := good_F k; have g' := good_S k'
 exact RQ.bindL (RQ.refl _) (good_exp (by decide)) (good_exp (by decide)) lt_exp (fun _ => Good.bind (g.e 1) (fun _ => Good.bind (good_exp (by decide)) (fun _ => Good.ret _))) (fun _ => Good.bind (g'.e 1) (fun _ => Good.bind (good_exp (by decide)) (fun _ => Good.ret _)))
  (fun _ => RQ.bind (h.e1 (by omega) (by omega)) (g.e 1) (g'.e 1) (fun _ => Good.bind (good_exp (by decide)) (fun _ => Good.ret _)) (fun _ => Good.bind (good_exp (by decide)) (fun _ => Good.ret _)) (fun _ => RQ.refl _))
end
end Bk
namespace Bk
open Go
def listC0 : Pr Bool := rdP (eqF [115, 116, 97, 99, 107]) (fun _ _ => retP true) (fun _ _ => bindP (expP [105, 110, 116]) (fun _ => retP false))
theorem listP_at (ts : List Tok) (n : Int) (σ : PS) : listP ts n σ = listC0 ts n σ := by
 unfold listP
 simp only [exp_at]
 rfl
theorem good_list : Good (fun ts n σ => listP ts n σ) := Good.congr listP_at (Good.rd (eqF_nil (by decide)) (fun _ _ => Good.ret _) (fun _ _ => Good.bind (good_exp (by decide)) (fun _ => Good.ret _)))
theorem lt_list : LtP (fun ts n σ => listP ts n σ) := LtP.congr listP_at (LtP.rd (eqF_nil (by decide)) (fun _ _ => Good.ret _) (fun _ _ => LtP.bind lt_exp (good_exp (by decide)) (fun _ => Good.ret _)))
theorem good_fparam : Good (fun ts n σ => fparamP ts n σ) := Good.congr (q := bindP (fun ts n σ => listP ts n σ) (fun l => bindP (fun ts n σ => nameP ts n σ) (fun m => retP (⟨m, l⟩ : FP)))) (fun ts n σ => rfl) (Good.bind good_list (fun _ => Good.bind good_name (fun _ => Good.ret _)))
theorem lt_fparam : LtP (fun ts n σ => fparamP ts n σ) := LtP.congr (q := bindP (fun ts n σ => listP ts n σ) (fun l => bindP (fun ts n σ => nameP ts n σ) (fun m => retP (⟨m, l⟩ : FP)))) (fun ts n σ => rfl) (LtP.bind lt_list good_list (fun _ => Good.bind good_name (fun _ => Good.ret _)))
theorem fparams_at (k : Nat) (acc : List FP) (ts : List Tok) (n : Int) (σ : PS) : fparamsP ts n (k + 1) acc σ = bindP (fun ts n σ => fparamP ts n σ) (fun p => rdP (eqF [44]) (fun _ _ ts n σ => fparamsP ts n k (acc ++ [p]) σ) (fun _ _ => retP (acc ++ [p]))) ts n σ := by
 rw [fparamsP]
 unfold bindP rdP
 dsimp only
 by_cases h : hasP ts (fparamP ts n σ).2 [44] = true
 · rw [if_pos h, if_pos (show decide _ = true from h)]
 · rw [if_neg h, if_neg (show ¬ decide _ = true from h)]; rfl
theorem good_fparams (k : Nat) : ∀ acc, Good (fun ts n σ => fparamsP ts n k acc σ) := by
 induction k with
 | zero => intro acc; exact Good.congr (fun ts n σ => by rw [fparamsP]; rfl) (Good.ret acc)
 | succ k ih => intro acc; exact Good.congr (fparams_at k acc) (Good.bind good_fparam (fun p => Good.rd (eqF_nil (by decide)) (fun _ _ => ih _) (fun _ _ => Good.ret _)))
theorem fuel_fparams {ts : List Tok} {n : Int} (k : Nat) : ∀ (m : Nat) acc, m + 1 ≤ k → EqB ts n m (fun ts n σ => fparamsP ts n (k + 1) acc σ) (fun ts n σ => fparamsP ts n k acc σ) := by
 induction k with
 | zero => intro m acc h; omega
 | succ k ih =>
  intro m acc h; refine EqB.congr (fparams_at (k + 1) acc) (fparams_at k acc) ?_
  exact EqB.bindL (EqB.refl _) good_fparam lt_fparam (fun p => EqB.rd (eqF_nil (by decide)) (fun h1 _ _ => ih _ _ (by omega)) (fun _ _ => EqB.refl _))
def paramsC (k : Nat) : Pr (List FP) := rdP (eqF [41]) (fun _ _ => retP []) (fun _ _ => bindP (fun ts n σ => fparamsP ts n k [] σ) (fun r => bindP (expP [41]) (fun _ => retP r)))
def headC {α : Type} (k : Nat) (f : List UInt8 → List FP → Bool → Pr α) : Pr α := bindP (expP [112, 114, 111, 99]) (fun _ => bindP (fun ts n σ => nameP ts n σ) (fun m => bindP (expP [40]) (fun _ => bindP (paramsC k) (fun q => bindP (fun ts n σ => listP ts n σ) (fun l => f m q l)))))
def functionC (k : Nat) (b : Pr Nd) : Pr FD := headC k (fun m q l => bindP b (fun x => retP (⟨m, q, l, x⟩ : FD)))
theorem functionP_at (k : Nat) (ts : List Tok) (n : Int) (σ : PS) : functionP ts n k σ = functionC k (fun ts n σ => braceF ts n k σ) ts n σ := by
 unfold functionP functionC headC
 simp only [exp_at]
 unfold bindP paramsC rdP
 dsimp only
 by_cases h : hasP ts (expP [40] ts n (nameP ts n (expP [112, 114, 111, 99] ts n σ).2).2).2 [41] = true
 · rw [if_pos h, if_pos (show decide _ = true from h)]; rfl
 · rw [if_neg h, if_neg (show ¬ decide _ = true from h)]; rfl
def paramsS (k : Nat) : Pr (List FP) := bindP (erP (retP []) (teP (fun _ t => decide (t ≠ [41])) (fun ts n σ => fparamsP ts n k [] σ) (retP []))) (fun r => bindP (expP [41]) (fun _ => retP r))
theorem good_paramsC (k : Nat) : Good (paramsC k) := Good.rd (eqF_nil (by decide)) (fun _ _ => Good.ret _) (fun _ _ => Good.bind (good_fparams k _) (fun _ => Good.bind (good_exp (by decide)) (fun _ => Good.ret _)))
theorem good_headC {α : Type} (k : Nat) {f : List UInt8 → List FP → Bool → Pr α} (hf : ∀ m q l, Good (f m q l)) : Good (headC k f) := Good.bind (good_exp (by decide)) (fun _ => Good.bind good_name (fun _ => Good.bind (good_exp (by decide)) (fun _ => Good.bind (good_paramsC k) (fun _ => Good.bind good_list (fun _ => hf _ _ _)))))
theorem good_function (k : Nat) : Good (fun ts n σ => functionP ts n k σ) := Good.congr (functionP_at k) (good_headC k (fun _ _ _ => Good.bind (good_F k).b (fun _ => Good.ret _)))
theorem lt_function (k : Nat) : LtP (fun ts n σ => functionP ts n k σ) := LtP.congr (functionP_at k) (LtP.bind lt_exp (good_exp (by decide)) (fun _ => Good.bind good_name (fun _ => Good.bind (good_exp (by decide)) (fun _ => Good.bind (good_paramsC k) (fun _ => Good.bind good_list (fun _ => Good.bind (good_F k).b (fun _ => Good.ret _)))))))
section
variable {ts : List Tok} {n : Int} {m : Nat}
theorem EqB.trans {α : Type} {p q r : Pr α} (h : EqB ts n m p q) (k : EqB ts n m q r) : EqB ts n m p r := fun σ hw hm => (h σ hw hm).trans (k σ hw hm)
theorem libP_le (k : Nat) : ∀ (acc : List FD) (at_ : List Int) (σ : PS), σ.at_ ≤ ts.length → Le ts σ (libP ts n k acc at_ σ).2 := by
 induction k with
 | zero => intro acc at_ σ h; rw [libP]; exact Le.refl h
 | succ k ih =>
  intro acc at_ σ h; rw [libP]
  split
  · have l := (good_function k).le ts n σ h
    exact l.trans (ih _ _ _ l.wf)
  · exact Le.refl h
theorem libP_end {k : Nat} {acc : List FD} {at_ : List Int} {σ : PS} (h : σ.err ≠ 0 ∨ ¬ σ.at_ < ts.length) : libP ts n k acc at_ σ = ((acc, at_), σ) := by
 cases k with
 | zero => rw [libP]
 | succ k => rw [libP, if_neg (fun e => h.elim (fun h => h e.1) (fun h => h e.2))]
end
end Bk
namespace Bk
open Go Go.RowKit Go.Proofs
attribute [local irreducible] Go.Calls
def FunR (c : PCF) (w : World) (r : FD × PS) : Ending → World → Prop := fun e w' => ∃ pa pc ba bc, e = .returned (.agg (r.1.cells pa pc ba bc).toArray) ∧ FPs (fun b => w.heap.size ≤ b ∧ b < w'.heap.size) w' r.1.params pa ∧ r.1.body.sits (fun b => w.heap.size ≤ b ∧ b < w'.heap.size) w' ba ∧ PPF c r.2 w' ∧ Fr (· = c.pb) w w'
theorem FunR.ret {c : PCF} {w : World} {r : FD × PS} {e : Ending} {w' : World} (h : FunR c w r e w') : ∃ v, e = .returned v := by
 obtain ⟨_, _, _, _, h, -⟩ := h
 exact ⟨_, h⟩
theorem listP_le {ts : List Tok} {n : Int} {σ : PS} (h : σ.at_ ≤ ts.length) : Le ts σ (listP ts n σ).2 := good_list.le ts n σ h
set_option maxRecDepth 100000 in
set_option maxHeartbeats 4000000 in
theorem function_fw (c : PCF) (k : Nat) (σ : PS) (w : World) (hP : PPF c σ w) (hk : 4 * mS c.ts σ + 5 ≤ k) :
 Calls Tryz.prog 31 #[.pointer (some ⟨c.pb, 0, none⟩)] w (FunR c w (functionP c.ts c.n k σ)) := by
 have X := Fr.refl (· = c.pb) w; have hpb := hP.pbB; have hB := hP.B; have hlen := hP.len; have m0 := mS_len (ts := c.ts) (σ := σ); have l1 := expect_le (n := c.n) (t := [112, 114, 111, 99]) hP.at_ (by decide); have l2 := name_le (n := c.n) l1.wf; have l3 := expect_le (n := c.n) (t := [40]) l2.wf (by decide); have m3 := mS_le ((l1.trans l2).trans l3)
 unfold functionP
 dsimp only; refine calls_in Tryz.func31 Tryz.ntmps31 rfl rfl ?_
 focus
  refine cS ?_; (refine lw_alloc' [_, _, _, _, _, _, _] zOk rfl rfl ?_; intro b1 w2 n3); have h5 := n3.blk; have x6 := n3.ext; have p7 := n3.pos; have z8 := n3.size; clear n3; replace hP := hP.ext x6; replace X := X.ext x6; clear x6; refine cN ?_; (refine lw_alloc' [_, _, _, _, _, _, _] zOk rfl rfl ?_; intro b9 w10 n11); have h13 := n11.blk; have x14 := n11.ext; have p15 := n11.pos; have z16 := n11.size; clear n11; replace h5 := h5.ext x14; replace hP := hP.ext x14; replace X := X.ext x14; clear x14; refine cN (cM rfl rfl ?_); refine cC (by kernel_rfl) rfl (fexpect_c _ _ _ _ (by assumption) (by decide)) rfl ?_; rintro _ w19 ⟨⟨⟩, ⟨h17, f18⟩⟩; have z20 := f18.size; replace h13 := h13.fr f18 (by omega); replace h5 := h5.fr f18 (by omega); clear hP; replace X := X.fr f18 (by omega); clear f18; refine cN (cM rfl rfl ?_); refine cC (by kernel_rfl) rfl (fname_c _ _ _ (by assumption)) rfl ?_; rintro _ w23 ⟨⟨⟩, ⟨h21, f22⟩⟩; have z24 := f22.size; clear h17; replace h13 := h13.fr f22 (by omega); replace h5 := h5.fr f22 (by omega); replace X := X.fr f22 (by omega); clear f22; refine lw_pure (pur_fieldAddr0 tabOk rfl rfl rfl) rfl ?_; (refine lw_store' [_] [_, _, _, _, _, _, _] tabOk rfl rfl rfl rfl rfl rfl h13 rfl rfl ?_; intro w25 n26); have h29 := n26.blk; have f27 := n26.fr; have z28 := n26.size; clear n26 h13; replace h21 := h21.fr f27 (by omega); replace h5 := h5.fr f27 (by omega); replace X := X.fr f27 (by omega); clear f27; refine cN (cM rfl rfl ?_); refine cC (by kernel_rfl) rfl (fexpect_c _ _ _ _ (by assumption) (by decide)) rfl ?_
  rintro _ w32 ⟨⟨⟩, ⟨h30, f31⟩⟩; have z33 := f31.size; replace h29 := h29.fr f31 (by omega); clear h21; replace h5 := h5.fr f31 (by omega); replace X := X.fr f31 (by omega); clear f31; refine cT (cw_seq ?_); rotate_left 1
 clear l1 l2 l3
 generalize expectP c.ts c.n (nameP c.ts c.n (expectP c.ts c.n σ [112, 114, 111, 99])).2 [40] = σ1 at *
 generalize (nameP c.ts c.n (expectP c.ts c.n σ [112, 114, 111, 99])).1 = nm at *
 cases hh : hasP c.ts σ1 [41]
 case true =>
  have i1 := has_in h30.at_ hh (by decide); have l1 := next_le i1; have m1 := mS_le l1; have l2 := listP_le (n := c.n) l1.wf; have m2 := mS_le l2; clear i1 l1 l2; simp only [if_true]
  focus
   refine cS (cM rfl rfl ?_); refine cC (by kernel_rfl) rfl (faccept_t _ _ _ _ (by assumption) (by decide) (by assumption)) rfl ?_; rintro _ wa3 ⟨⟨⟩, ⟨ha1, fa2⟩⟩; have za4 := fa2.size; replace h5 := h5.fr fa2 (by omega); replace X := X.fr fa2 (by omega); clear h30; replace h29 := h29.fr fa2 (by omega); clear fa2; refine lw_pure (pur_not rfl) rfl (cT (cw_cond_f rfl (cw_skip (qw_then (cS (cM rfl rfl ?_)))))); refine cC (by kernel_rfl) rfl (flist_c _ _ _ (by assumption)) rfl ?_; rintro _ wa7 ⟨⟨⟩, ⟨ha5, fa6⟩⟩; have za8 := fa6.size; clear ha1; replace h5 := h5.fr fa6 (by omega); replace X := X.fr fa6 (by omega); replace h29 := h29.fr fa6 (by omega); clear fa6; refine lw_pure (pur_fieldAddr tabOk rfl rfl rfl) rfl ?_; (refine lw_store' [_] [_, _, _, _, _, _, _] tabOk rfl rfl rfl rfl rfl rfl h29 rfl rfl ?_; intro wa9 na10); have ha13 := na10.blk; have fa11 := na10.fr; have za12 := na10.size; clear na10 h29; replace ha5 := ha5.fr fa11 (by omega); replace h5 := h5.fr fa11 (by omega); replace X := X.fr fa11 (by omega); clear fa11; refine cN (cM rfl rfl ?_); refine cR (by kernel_rfl) rfl ((exprs_fc c k).b _ _ (by assumption) (by omega)) (fun _ _ h => h.ret) rfl ?_; rintro _ wa19 ⟨aa14, ⟨ka15, ⟨⟨⟩, ⟨ha16, ⟨ha17, fa18⟩⟩⟩⟩⟩; have za20 := fa18.size; replace ha13 := ha13.fr fa18 (by omega); clear ha5; replace h5 := h5.fr fa18 (by omega); replace X := X.fr fa18 (by omega); clear fa18; refine lw_pure (pur_fieldAddr tabOk rfl rfl rfl) rfl ?_; (refine lw_store' [_, _, _, _] [_, _, _, _, _, _, _] tabOk rfl rfl rfl rfl rfl rfl ha13 rfl rfl ?_; intro wa21 na22)
   have ha25 := na22.blk; have fa23 := na22.fr; have za24 := na22.size; clear na22 ha13; replace ha16 := Nd.sits.fr ha16 fa23 (by omega); replace ha17 := ha17.fr fa23 (by omega); replace h5 := h5.fr fa23 (by omega); replace X := X.fr fa23 (by omega); clear fa23; refine cN (lw_loads_b' [_, _, _, _, _, _, _] tabOk rfl rfl rfl ha25 rfl rfl rfl ?_); (refine lw_store' [_, _, _, _, _, _, _] [_, _, _, _, _, _, _] tabOk rfl rfl rfl rfl rfl rfl h5 rfl rfl ?_; intro wa26 na27); have ha30 := na27.blk; have fa28 := na27.fr; have za29 := na27.size; clear na27 h5; replace ha25 := ha25.fr fa28 (by omega); replace ha16 := Nd.sits.fr ha16 fa28 (by omega); replace ha17 := ha17.fr fa28 (by omega); replace X := X.fr fa28 (by omega); clear fa28; refine cT (cw_ret (qw_retc rfl tabOk rfl rfl rfl ha30 rfl ?_)); rotate_left 1
  exact ⟨_, _, _, _, rfl, Or.inl rfl, Nd.sits.wide (by assumption) (fun b h => by omega), by assumption, X⟩
 simp only [Bool.false_eq_true, if_false]
 focus
  refine cS (cM rfl rfl ?_); refine cC (by kernel_rfl) rfl (faccept_f _ _ _ _ (by assumption) (by decide) (by assumption)) rfl ?_; rintro _ wb3 ⟨⟨⟩, ⟨hb1, fb2⟩⟩; have zb4 := fb2.size; replace h5 := h5.fr fb2 (by omega); replace X := X.fr fb2 (by omega); clear h30; replace h29 := h29.fr fb2 (by omega); clear fb2; refine lw_pure (pur_not rfl) rfl (cT (cw_cond_t rfl (cw_seq (cw_block ?_)))); rotate_left 1
 refine cw_loop (ι := Nat × List FP × Option Addr × Nat × PS) (fun x => [(0, .pointer (some ⟨c.pb, 0, none⟩)), (2, .pointer (some ⟨b1, 0, none⟩)), (3, .pointer (some ⟨b9, 0, none⟩))])
  (fun x w' => PPF c x.2.2.2.2 w' ∧ Blk w' b9 [str nm, .slice x.2.2.1 x.2.1.length x.2.2.2.1, .bool false, .int .u8 0, .int .i64 0, .string ⟨#[]⟩, .slice none 0 0] ∧ OwnQ fpShape w' (b9 < ·) (b9 + 1) 48 (.slice x.2.2.1 x.2.1.length x.2.2.2.1) x.2.1 ∧ Blk w' b1 [.string ⟨#[]⟩, .slice none 0 0, .bool false, .int .u8 0, .int .i64 0, .string ⟨#[]⟩, .slice none 0 0] ∧ Fr (· = c.pb) w w' ∧ wb3.heap.size ≤ w'.heap.size ∧
   fparamsP c.ts c.n k [] σ1 = fparamsP c.ts c.n x.1 x.2.1 x.2.2.2.2 ∧ mS c.ts x.2.2.2.2 + 1 ≤ x.1 ∧ mS c.ts x.2.2.2.2 ≤ mS c.ts σ ∧ x.2.1.length + mS c.ts x.2.2.2.2 ≤ 1000001) (fun x => x.1) (k, [], none, 0, σ1) (by (refine sub_cons rfl ?_; refine sub_cons rfl ?_; refine sub_cons rfl ?_; exact sub_nil))
  ⟨hb1, h29, OwnQ.nil, h5, X, Nat.le_refl _, rfl, by simp only; omega, m3, by simp only [List.length_nil]; omega⟩ ?_
 clear hb1 h29 h5 X; rintro ⟨j, acc, a, cap, σ'⟩ w1 ⟨hP, hbn, hown, hbr, X, hz, he, hfj, hmj, hacc⟩; simp only at hP hbn hown he hfj hmj hacc; rw [he]; clear he m3 hh; obtain ⟨j, rfl⟩ : ∃ i, j = i + 1 := ⟨j - 1, by omega⟩
 have hob : ∀ g, (Value.slice a acc.length cap).ownBlock = some g → b9 + 1 ≤ g ∧ g < w1.heap.size := fun g h => ⟨hown.ge h, hown.lt h⟩
 have l1 := listP_le (n := c.n) hP.at_; have m1 := mS_lt l1 (lt_list c.ts c.n σ' hP.at_); have l2 := name_le (n := c.n) l1.wf; have m2 := mS_le l2
 cases hh : hasP c.ts (nameP c.ts c.n (listP c.ts c.n σ').2).2 [44]
 · rw [show fparamsP c.ts c.n (j + 1) acc σ' = (acc ++ [⟨(nameP c.ts c.n (listP c.ts c.n σ').2).1, (listP c.ts c.n σ').1⟩], (nameP c.ts c.n (listP c.ts c.n σ').2).2) from by rw [fparamsP]; simp only [fparamP, hh, Bool.false_eq_true, if_false]]
   have l3 := expect_le (n := c.n) (t := [41]) l2.wf (by decide); have m3 := mS_le l3; have l4 := listP_le (n := c.n) l3.wf; have m4 := mS_le l4; clear l1 l2 l3 l4
   focus
    refine cw_block (cS (cM rfl rfl ?_)); refine cC (by kernel_rfl) rfl (flist_c _ _ _ (by assumption)) rfl ?_; rintro _ wc3 ⟨⟨⟩, ⟨hc1, fc2⟩⟩; have zc4 := fc2.size; clear hP; replace hbn := hbn.fr fc2 (by omega); replace hown := OwnQ.fr hown fc2 (fun k hk => ⟨fun h => by (try dsimp only at hk h); omega, fun e => by have := OwnQ.ge (by assumption) e; (try dsimp only at hk); omega⟩); replace hbr := hbr.fr fc2 (by omega); replace X := X.fr fc2 (by omega); clear fc2; refine cA rfl rfl (cT (cw_seq ?_)); (refine cw_tdraw (fun wz => Fr (· = c.pb) wc3 wz) 7 (.pure 0 (.pure 1 (.pure 2 (.pure 4 (.fork 3 (.pure 5 (.fork 6 .tail .none)) .none))))) mixed (by kernel_rfl) (panicOk_then (panicOk_block (panicOk_then (panicOk_block (panicOk_then (panicOk_then panicOk_body)))))) ?_; intro wc5 xc6 _); have qsc7 : (fun wz => Fr (· = c.pb) wc3 wz) wc5 := Fr.of_ext xc6; simp only at qsc7; have d_hc1 := hc1; have d_hbn := hbn; have d_hown := hown; have d_hbr := hbr; have zc8 := xc6.size; replace hc1 := hc1.ext xc6; replace hbn := hbn.ext xc6; replace hown := hown.ext xc6; replace hbr := hbr.ext xc6; replace X := X.ext xc6; clear xc6; refine ⟨qsc7, ?_⟩; refine tw_pure rfl (pur_fieldAddr tabOk rfl rfl rfl) rfl ?_; refine tw_pure rfl (pur_load tabOk rfl rfl rfl (fun wz hz => Blk.cell (Blk.fr d_hbn hz (by first | omega | (dsimp only; omega))) rfl)) rfl ?_; refine tw_pure rfl (pur_move rfl) rfl (tw_pure rfl (pur_move rfl) rfl ?_); refine tw_does rfl (does_call (by kernel_rfl) rfl (fname_c _ _ _ (by assumption)) (fun _ _ h => ⟨_, h.1⟩)) rfl ?_ (fun _ h => h) tw_none
    rintro _ wc12 ⟨⟨⟩, ⟨hc10, fc11⟩⟩; have zc13 := fc11.size; replace qsc7 := qsc7.fr fc11 (by omega); clear hc1; replace hbn := hbn.fr fc11 (by omega); replace hown := OwnQ.fr hown fc11 (fun k hk => ⟨fun h => by (try dsimp only at hk h); omega, fun e => by have := OwnQ.ge (by assumption) e; (try dsimp only at hk); omega⟩); replace hbr := hbr.fr fc11 (by omega); replace X := X.fr fc11 (by omega); clear fc11; refine ⟨qsc7, ?_⟩; refine tw_pure rfl (pur_build' [_, _] tabOk zOk rfl rfl rfl rfl) rfl ?_; (refine tw_does rfl (does_slice' [_, _] tabOk zOk rfl rfl rfl rfl rfl rfl rfl rfl rfl) rfl ?_ (fun _ h => h) tw_none; rintro _ wc16 ⟨bc15, rfl, nc17, tc18⟩); clear tc18; have hc19 := nc17.blk; have xc20 := nc17.ext; have pc21 := nc17.pos; have zc22 := nc17.size; clear nc17; replace hc10 := hc10.ext xc20; replace qsc7 := qsc7.ext xc20; replace hbn := hbn.ext xc20; replace hown := hown.ext xc20; replace hbr := hbr.ext xc20; replace X := X.ext xc20; clear xc20; refine ⟨qsc7, ?_⟩; clear d_hc1 d_hbn d_hown d_hbr qsc7; refine tw_tail rfl ?_; refine lw_does (does_appendQ (R := (b9 < ·)) (sh := fpShape) (z := ⟨(nameP c.ts c.n (listP c.ts c.n σ').2).1, (listP c.ts c.n σ').1⟩) tabOk zOk rfl rfl rfl rfl (by kernel_rfl) rfl rfl rfl (by assumption) (fun _ h => by exact h) (Blk.row (by assumption)) rfl (by omega) (by omega)) rfl ?_ (fun _ h => h); rintro _ wc29 ⟨gc23, ⟨capc24, ⟨rfl, ⟨hc25, ⟨hc26, ⟨hc27, fc28⟩⟩⟩⟩⟩⟩; have zc30 := fc28.size; replace hc19 := Blk.fr hc19 fc28 (fun e => by have := hob _ e; omega)
    replace hc10 := PPF.fr hc10 fc28 (fun k hk => by have := hob _ hk; omega); replace hbn := Blk.fr hbn fc28 (fun e => by have := hob _ e; omega); clear hown; replace hbr := Blk.fr hbr fc28 (fun e => by have := hob _ e; omega); replace X := Fr.fr X fc28 (fun k hk => by have := hob _ hk; omega); clear fc28; refine lw_pure (pur_fieldAddr tabOk rfl rfl rfl) rfl ?_; (refine lw_store' [_] [_, _, _, _, _, _, _] tabOk rfl rfl rfl rfl rfl rfl hbn rfl rfl ?_; intro wc31 nc32); have hc35 := nc32.blk; have fc33 := nc32.fr; have zc34 := nc32.size; clear nc32 hbn; replace hc25 := OwnQ.fr hc25 fc33 (fun k hk => ⟨fun h => by (try dsimp only at hk h); omega, fun e => by have := OwnQ.ge (by assumption) e; (try dsimp only at hk); omega⟩); replace hc19 := hc19.fr fc33 (by omega); replace hc10 := hc10.fr fc33 (by omega); replace hbr := hbr.fr fc33 (by omega); replace X := X.fr fc33 (by omega); clear fc33; refine cN (cM rfl rfl ?_); refine cC (by kernel_rfl) rfl (faccept_f _ _ _ _ (by assumption) (by decide) (by assumption)) rfl ?_; rintro _ wc38 ⟨⟨⟩, ⟨hc36, fc37⟩⟩; have zc39 := fc37.size; replace hc35 := hc35.fr fc37 (by omega); replace hc25 := OwnQ.fr hc25 fc37 (fun k hk => ⟨fun h => by (try dsimp only at hk h); omega, fun e => by have := OwnQ.ge (by assumption) e; (try dsimp only at hk); omega⟩); replace hc19 := hc19.fr fc37 (by omega); clear hc10; replace hbr := hbr.fr fc37 (by omega); replace X := X.fr fc37 (by omega); clear fc37; refine lw_pure (pur_not rfl) rfl (cT (cw_cond_t rfl (cw_exit (qw_block_pass rfl (qw_then_exit (qw_block_exit (qw_then (cw_region (cM rfl rfl ?_)))))))))
    refine cC (by kernel_rfl) rfl (fexpect_c _ _ _ _ (by assumption) (by decide)) rfl ?_; rintro _ wc42 ⟨⟨⟩, ⟨hc40, fc41⟩⟩; have zc43 := fc41.size; clear hc36; replace hc35 := hc35.fr fc41 (by omega); replace hc25 := OwnQ.fr hc25 fc41 (fun k hk => ⟨fun h => by (try dsimp only at hk h); omega, fun e => by have := OwnQ.ge (by assumption) e; (try dsimp only at hk); omega⟩); replace hc19 := hc19.fr fc41 (by omega); replace hbr := hbr.fr fc41 (by omega); replace X := X.fr fc41 (by omega); clear fc41; refine cN (cM rfl rfl ?_); refine cC (by kernel_rfl) rfl (flist_c _ _ _ (by assumption)) rfl ?_; rintro _ wc46 ⟨⟨⟩, ⟨hc44, fc45⟩⟩; have zc47 := fc45.size; clear hc40; replace hc35 := hc35.fr fc45 (by omega); replace hc25 := OwnQ.fr hc25 fc45 (fun k hk => ⟨fun h => by (try dsimp only at hk h); omega, fun e => by have := OwnQ.ge (by assumption) e; (try dsimp only at hk); omega⟩); replace hc19 := hc19.fr fc45 (by omega); replace hbr := hbr.fr fc45 (by omega); replace X := X.fr fc45 (by omega); clear fc45; refine lw_pure (pur_fieldAddr tabOk rfl rfl rfl) rfl ?_; (refine lw_store' [_] [_, _, _, _, _, _, _] tabOk rfl rfl rfl rfl rfl rfl hc35 rfl rfl ?_; intro wc48 nc49); have hc52 := nc49.blk; have fc50 := nc49.fr; have zc51 := nc49.size; clear nc49 hc35; replace hc44 := hc44.fr fc50 (by omega); replace hc25 := OwnQ.fr hc25 fc50 (fun k hk => ⟨fun h => by (try dsimp only at hk h); omega, fun e => by have := OwnQ.ge (by assumption) e; (try dsimp only at hk); omega⟩); replace hc19 := hc19.fr fc50 (by omega)
    replace hbr := hbr.fr fc50 (by omega); replace X := X.fr fc50 (by omega); clear fc50; refine cN (cM rfl rfl ?_); refine cR (by kernel_rfl) rfl ((exprs_fc c k).b _ _ (by assumption) (by omega)) (fun _ _ h => h.ret) rfl ?_; rintro _ wc58 ⟨ac53, ⟨kc54, ⟨⟨⟩, ⟨hc55, ⟨hc56, fc57⟩⟩⟩⟩⟩; have zc59 := fc57.size; replace hc52 := hc52.fr fc57 (by omega); clear hc44; replace hc25 := OwnQ.fr hc25 fc57 (fun k hk => ⟨fun h => by (try dsimp only at hk h); omega, fun e => by have := OwnQ.ge (by assumption) e; (try dsimp only at hk); omega⟩); replace hc19 := hc19.fr fc57 (by omega); replace hbr := hbr.fr fc57 (by omega); replace X := X.fr fc57 (by omega); clear fc57; refine lw_pure (pur_fieldAddr tabOk rfl rfl rfl) rfl ?_; (refine lw_store' [_, _, _, _] [_, _, _, _, _, _, _] tabOk rfl rfl rfl rfl rfl rfl hc52 rfl rfl ?_; intro wc60 nc61); have hc64 := nc61.blk; have fc62 := nc61.fr; have zc63 := nc61.size; clear nc61 hc52; replace hc55 := Nd.sits.fr hc55 fc62 (by omega); replace hc56 := hc56.fr fc62 (by omega); replace hc25 := OwnQ.fr hc25 fc62 (fun k hk => ⟨fun h => by (try dsimp only at hk h); omega, fun e => by have := OwnQ.ge (by assumption) e; (try dsimp only at hk); omega⟩); replace hc19 := hc19.fr fc62 (by omega); replace hbr := hbr.fr fc62 (by omega); replace X := X.fr fc62 (by omega); clear fc62; refine cN (lw_loads_b' [_, _, _, _, _, _, _] tabOk rfl rfl rfl hc64 rfl rfl rfl ?_); (refine lw_store' [_, _, _, _, _, _, _] [_, _, _, _, _, _, _] tabOk rfl rfl rfl rfl rfl rfl hbr rfl rfl ?_; intro wc65 nc66)
    have hc69 := nc66.blk; have fc67 := nc66.fr; have zc68 := nc66.size; clear nc66 hbr; replace hc64 := hc64.fr fc67 (by omega); replace hc55 := Nd.sits.fr hc55 fc67 (by omega); replace hc56 := hc56.fr fc67 (by omega); replace hc25 := OwnQ.fr hc25 fc67 (fun k hk => ⟨fun h => by (try dsimp only at hk h); omega, fun e => by have := OwnQ.ge (by assumption) e; (try dsimp only at hk); omega⟩); replace hc19 := hc19.fr fc67 (by omega); replace X := X.fr fc67 (by omega); clear fc67; refine cT (cw_ret (qw_retc rfl tabOk rfl rfl rfl hc69 rfl ?_)); rotate_left 1
   exact ⟨_, _, _, _, rfl, OwnQ.fps (by assumption) (fun b h h2 => ⟨by omega, h2⟩), Nd.sits.wide (by assumption) (fun b h => by omega), by assumption, X⟩
 · rw [show fparamsP c.ts c.n (j + 1) acc σ' = fparamsP c.ts c.n j (acc ++ [⟨(nameP c.ts c.n (listP c.ts c.n σ').2).1, (listP c.ts c.n σ').1⟩]) (nextP (nameP c.ts c.n (listP c.ts c.n σ').2).2) from by rw [fparamsP]; simp only [fparamP, hh, if_true]]
   have i1 := has_in l2.wf hh (by decide); have m3 := mS_next i1; clear l1 l2 i1
   focus
    refine cw_block (cS (cM rfl rfl ?_)); refine cC (by kernel_rfl) rfl (flist_c _ _ _ (by assumption)) rfl ?_; rintro _ wd3 ⟨⟨⟩, ⟨hd1, fd2⟩⟩; have zd4 := fd2.size; clear hP; replace hbn := hbn.fr fd2 (by omega); replace hown := OwnQ.fr hown fd2 (fun k hk => ⟨fun h => by (try dsimp only at hk h); omega, fun e => by have := OwnQ.ge (by assumption) e; (try dsimp only at hk); omega⟩); replace hbr := hbr.fr fd2 (by omega); replace X := X.fr fd2 (by omega); clear fd2; refine cA rfl rfl (cT (cw_seq ?_)); (refine cw_tdraw (fun wz => Fr (· = c.pb) wd3 wz) 7 (.pure 0 (.pure 1 (.pure 2 (.pure 4 (.fork 3 (.pure 5 (.fork 6 .tail .none)) .none))))) mixed (by kernel_rfl) (panicOk_then (panicOk_block (panicOk_then (panicOk_block (panicOk_then (panicOk_then panicOk_body)))))) ?_; intro wd5 xd6 _); have qsd7 : (fun wz => Fr (· = c.pb) wd3 wz) wd5 := Fr.of_ext xd6; simp only at qsd7; have d_hd1 := hd1; have d_hbn := hbn; have d_hown := hown; have d_hbr := hbr; have zd8 := xd6.size; replace hd1 := hd1.ext xd6; replace hbn := hbn.ext xd6; replace hown := hown.ext xd6; replace hbr := hbr.ext xd6; replace X := X.ext xd6; clear xd6; refine ⟨qsd7, ?_⟩; refine tw_pure rfl (pur_fieldAddr tabOk rfl rfl rfl) rfl ?_; refine tw_pure rfl (pur_load tabOk rfl rfl rfl (fun wz hz => Blk.cell (Blk.fr d_hbn hz (by first | omega | (dsimp only; omega))) rfl)) rfl ?_; refine tw_pure rfl (pur_move rfl) rfl (tw_pure rfl (pur_move rfl) rfl ?_); refine tw_does rfl (does_call (by kernel_rfl) rfl (fname_c _ _ _ (by assumption)) (fun _ _ h => ⟨_, h.1⟩)) rfl ?_ (fun _ h => h) tw_none
    rintro _ wd12 ⟨⟨⟩, ⟨hd10, fd11⟩⟩; have zd13 := fd11.size; replace qsd7 := qsd7.fr fd11 (by omega); clear hd1; replace hbn := hbn.fr fd11 (by omega); replace hown := OwnQ.fr hown fd11 (fun k hk => ⟨fun h => by (try dsimp only at hk h); omega, fun e => by have := OwnQ.ge (by assumption) e; (try dsimp only at hk); omega⟩); replace hbr := hbr.fr fd11 (by omega); replace X := X.fr fd11 (by omega); clear fd11; refine ⟨qsd7, ?_⟩; refine tw_pure rfl (pur_build' [_, _] tabOk zOk rfl rfl rfl rfl) rfl ?_; (refine tw_does rfl (does_slice' [_, _] tabOk zOk rfl rfl rfl rfl rfl rfl rfl rfl rfl) rfl ?_ (fun _ h => h) tw_none; rintro _ wd16 ⟨bd15, rfl, nd17, td18⟩); clear td18; have hd19 := nd17.blk; have xd20 := nd17.ext; have pd21 := nd17.pos; have zd22 := nd17.size; clear nd17; replace hd10 := hd10.ext xd20; replace qsd7 := qsd7.ext xd20; replace hbn := hbn.ext xd20; replace hown := hown.ext xd20; replace hbr := hbr.ext xd20; replace X := X.ext xd20; clear xd20; refine ⟨qsd7, ?_⟩; clear d_hd1 d_hbn d_hown d_hbr qsd7; refine tw_tail rfl ?_; refine lw_does (does_appendQ (R := (b9 < ·)) (sh := fpShape) (z := ⟨(nameP c.ts c.n (listP c.ts c.n σ').2).1, (listP c.ts c.n σ').1⟩) tabOk zOk rfl rfl rfl rfl (by kernel_rfl) rfl rfl rfl (by assumption) (fun _ h => by exact h) (Blk.row (by assumption)) rfl (by omega) (by omega)) rfl ?_ (fun _ h => h); rintro _ wd29 ⟨gd23, ⟨capd24, ⟨rfl, ⟨hd25, ⟨hd26, ⟨hd27, fd28⟩⟩⟩⟩⟩⟩; have zd30 := fd28.size; replace hd19 := Blk.fr hd19 fd28 (fun e => by have := hob _ e; omega)
    replace hd10 := PPF.fr hd10 fd28 (fun k hk => by have := hob _ hk; omega); replace hbn := Blk.fr hbn fd28 (fun e => by have := hob _ e; omega); clear hown; replace hbr := Blk.fr hbr fd28 (fun e => by have := hob _ e; omega); replace X := Fr.fr X fd28 (fun k hk => by have := hob _ hk; omega); clear fd28; refine lw_pure (pur_fieldAddr tabOk rfl rfl rfl) rfl ?_; (refine lw_store' [_] [_, _, _, _, _, _, _] tabOk rfl rfl rfl rfl rfl rfl hbn rfl rfl ?_; intro wd31 nd32); have hd35 := nd32.blk; have fd33 := nd32.fr; have zd34 := nd32.size; clear nd32 hbn; replace hd25 := OwnQ.fr hd25 fd33 (fun k hk => ⟨fun h => by (try dsimp only at hk h); omega, fun e => by have := OwnQ.ge (by assumption) e; (try dsimp only at hk); omega⟩); replace hd19 := hd19.fr fd33 (by omega); replace hd10 := hd10.fr fd33 (by omega); replace hbr := hbr.fr fd33 (by omega); replace X := X.fr fd33 (by omega); clear fd33; refine cN (cM rfl rfl ?_); refine cC (by kernel_rfl) rfl (faccept_t _ _ _ _ (by assumption) (by decide) (by assumption)) rfl ?_; rintro _ wd38 ⟨⟨⟩, ⟨hd36, fd37⟩⟩; have zd39 := fd37.size; replace hd35 := hd35.fr fd37 (by omega); replace hd25 := OwnQ.fr hd25 fd37 (fun k hk => ⟨fun h => by (try dsimp only at hk h); omega, fun e => by have := OwnQ.ge (by assumption) e; (try dsimp only at hk); omega⟩); replace hd19 := hd19.fr fd37 (by omega); clear hd10; replace hbr := hbr.fr fd37 (by omega); replace X := X.fr fd37 (by omega); clear fd37; refine lw_pure (pur_not rfl) rfl (cT (cw_cond_f rfl (cw_skip (qw_block_norm ?_))))
    rotate_left 1
   exact qw_round (j, acc ++ [⟨(nameP c.ts c.n (listP c.ts c.n σ').2).1, (listP c.ts c.n σ').1⟩], some ⟨_, 0, none⟩, _, nextP (nameP c.ts c.n (listP c.ts c.n σ').2).2) (by (refine sub_cons rfl ?_; refine sub_cons rfl ?_; refine sub_cons rfl ?_; exact sub_nil)) ⟨by assumption, by assumption, by assumption, by assumption, X, by omega, rfl, by simp only; omega, by simp only; omega, by simp only [List.length_append, List.length_cons, List.length_nil]; omega⟩ (by simp)
end Bk
