/- Texts that the proofs of ParserLimits need. No condition. (Part 2 of 5.) -/
import Derived.Test.YtihgojmblldifaaDoorPLim1
set_option linter.unusedSimpArgs false
set_option linter.unusedVariables false
namespace Bk
open Go Go.RowKit
structure Shape (α : Type) where
 sz : Nat
 rep : World → (Nat → Prop) → α → List Value → Prop
 len : ∀ {w S x cs}, rep w S x cs → cs.length = sz
 one : ∀ {w S x cs}, rep w S x cs → cs.all Value.one = true
 mono : ∀ {w w' : World} {S S' x cs}, rep w S x cs → (∀ b, S b → S' b) → (∀ b o v, S b → w.cell? ⟨b, o, none⟩ = some v → w'.cell? ⟨b, o, none⟩ = some v) → rep w' S' x cs
 lt : ∀ {w S x cs}, rep w S x cs → rep w (fun b => S b ∧ b < w.heap.size) x cs
structure OwnL {α : Type} (sh : Shape α) (w : World) (B : Nat) (e : TypeId) (v : Value) (xs : List α) : Prop where
 ex : ∃ css : List (List Value), Own w B e sh.sz v xs.length css.flatten ∧ css.length = xs.length ∧ ∀ (i : Nat) (x : α) (cs : List Value), xs[i]? = some x → css[i]? = some cs → sh.rep w (fun b => B ≤ b ∧ v.ownBlock ≠ some b) x cs
theorem OwnL.nil {α : Type} {sh : Shape α} {w : World} {B e : Nat} : OwnL sh w B e (.slice none 0 0) [] := ⟨⟨[], Own.nil, rfl, by simp⟩⟩
theorem Own.ge {w : World} {b e sz n : Nat} {v : Value} {cs : List Value} (h : Own w b e sz v n cs) {k : Nat} (hk : v.ownBlock = some k) : b ≤ k := (h.blk hk).1
theorem OwnL.ge {α : Type} {sh : Shape α} {w : World} {B e : Nat} {v : Value} {xs : List α} (h : OwnL sh w B e v xs) {k : Nat} (hk : v.ownBlock = some k) : B ≤ k := by
 obtain ⟨css, h1, -⟩ := h.ex
 exact h1.ge hk
theorem OwnL.ext {α : Type} {sh : Shape α} {w w' : World} {B e : Nat} {v : Value} {xs : List α} (h : OwnL sh w B e v xs) (x : Ext w w') : OwnL sh w' B e v xs := by
 obtain ⟨css, h1, h2, h3⟩ := h.ex
 exact ⟨css, h1.ext x, h2, fun i y cs hy hc => sh.mono (h3 i y cs hy hc) (fun _ h => h) (fun b o u _ hu => x.keep hu)⟩
theorem OwnL.fr {α : Type} {sh : Shape α} {S : Nat → Prop} {w w' : World} {B e : Nat} {v : Value} {xs : List α} (h : OwnL sh w B e v xs) (x : Fr S w w') (hs : ∀ k, S k → k < B) : OwnL sh w' B e v xs := by
 obtain ⟨css, h1, h2, h3⟩ := h.ex
 exact ⟨css, h1.fr x (fun k hk hS => by have := h1.ge hk; have := hs k hS; omega), h2, fun i y cs hy hc => sh.mono (h3 i y cs hy hc) (fun _ h => h) (fun b o u hb hu => x.keep (fun hS => by have := hs b hS; omega) hu)⟩
theorem flatten_length {α : Type} {css : List (List α)} {n : Nat} (h : ∀ cs ∈ css, cs.length = n) : css.flatten.length = css.length * n := by
 induction css with
 | nil => simp
 | cons c r ih =>
  simp only [List.flatten_cons, List.length_append, List.length_cons, ih (fun x hx => h x (List.mem_cons_of_mem _ hx)), h c List.mem_cons_self, Nat.add_mul]
  omega
def GrewL {α : Type} (sh : Shape α) (w : World) (B : Nat) (e : TypeId) (xs : List α) : Option Value → World → Prop
 | some v', w' => ∃ g cap, v' = .slice (some ⟨g, 0, none⟩) xs.length cap ∧ OwnL sh w' B e v' xs ∧ Fr (B ≤ ·) w w'
 | none, _ => False
section
variable {P : Program} {n : Nat} {l : Sl} {w : World} {tab : Tab} {zt : ZTab} {ty : TypeId} {α : Type} {sh : Shape α}
theorem does_appendL {x y : Operand} {t e sz1 B cap : Nat} {sE : Sk} {zs : List Value} {v : Value} {xs : List α} {cs : List Value} {z : α} {p : Addr} (T : TabOk P tab) (Z : ZTabOk P zt) (ht : lookT tab t = some (.slice e, sz1)) (hE : lookT tab e = some (sE, sh.sz)) (hz : lookZ zt e = some zs) (hzl : zs.length = sh.sz)
 (hby : bytesOk P e = true) (hsz : Nat.blt 0 sh.sz = true) (hx : ev l x = some v) (hy : ev l y = some (.slice (some p) 1 cap)) (hown : OwnL sh w B e v xs) (hr : Row w p cs) (hrep : sh.rep w (fun b => B ≤ b ∧ v.ownBlock ≠ some b) z cs) (hlen : xs.length ≤ 10000000000) (hB : B ≤ w.heap.size) :
 Does P n l (.call ⟨.builtin .append, #[x, y], #[t, t]⟩) ty w (GrewL sh w B e (xs ++ [z])) := by
 obtain ⟨css, h1, h2, h3⟩ := hown.ex; have hd := does_append (P := P) (n := n) (l := l) (ty := ty) T Z ht hE hz hzl hby hsz hx hy h1 hr (by rw [sh.len hrep]; simp) (sh.one hrep) (by omega) (by omega) hB
 unfold Does at hd ⊢
 intro a dst pos after g next Q ha hn hn0; refine hd a dst pos after g next Q ha (fun v' w' hG => ?_) (fun w' hG => hG.elim); obtain ⟨g1, g2, g, cap', g3, g4⟩ := hG; have hgB : B ≤ g := g1.ge (k := g) (by rw [g3]; rfl); refine hn v' w' ⟨g, cap', by rw [g3]; simp, ⟨css ++ [cs], ?_, by simp [h2], fun i y ds hy hc => ?_⟩, g2.weaken (fun b hb => h1.ge hb)⟩
 · have e1 : (css ++ [cs]).flatten = css.flatten ++ cs := by simp
   have e2 : (xs ++ [z]).length = xs.length + 1 := by simp
   rw [e1, e2]; exact g1
 · have key : sh.rep w (fun b => B ≤ b ∧ v.ownBlock ≠ some b) y ds := by
    by_cases hi : i < xs.length
    · rw [List.getElem?_append_left hi] at hy
      rw [List.getElem?_append_left (by omega)] at hc
      exact h3 i y ds hy hc
    · have hil : i < (xs ++ [z]).length := by
       rcases Nat.lt_or_ge i (xs ++ [z]).length with h | h
       · exact h
       · rw [List.getElem?_eq_none h] at hy; cases hy
      simp only [List.length_append, List.length_cons, List.length_nil] at hil
      have hi' : i = xs.length := by omega
      subst hi'; rw [List.getElem?_append_right (Nat.le_refl _)] at hy; rw [List.getElem?_append_right (by omega)] at hc; simp only [Nat.sub_self, List.getElem?_cons_zero, Option.some.injEq] at hy; rw [h2] at hc; simp only [Nat.sub_self, List.getElem?_cons_zero, Option.some.injEq] at hc; subst hy hc
      exact hrep
   refine sh.mono (sh.lt key) (fun b hb => ⟨hb.1.1, fun e => ?_⟩) (fun b o u hb hu => g2.keep hb.1.2 hu); rw [g3] at e; simp only [Value.ownBlock, Option.some.injEq] at e; subst e
   rcases g4 with h | h
   · exact hb.1.2 h
   · omega
theorem lw_appendL {ops : Array Oper} {Q : Exit → Act → World → Prop} {rest : List Oper} {d : Nat} {pos : String} {after : Array Edge} {x y : Operand} {t e sz1 B cap : Nat} {sE : Sk} {zs : List Value} {v : Value} {xs : List α} {cs : List Value} {z : α} {p : Addr} (T : TabOk P tab) (Z : ZTabOk P zt) (ht : lookT tab t = some (.slice e, sz1)) (hE : lookT tab e = some (sE, sh.sz)) (hz : lookZ zt e = some zs) (hzl : zs.length = sh.sz)
 (hby : bytesOk P e = true) (hsz : Nat.blt 0 sh.sz = true) (hx : ev l x = some v) (hy : ev l y = some (.slice (some p) 1 cap)) (hown : OwnL sh w B e v xs) (hr : Row w p cs) (hrep : sh.rep w (fun b => B ≤ b ∧ v.ownBlock ≠ some b) z cs) (hlen : xs.length ≤ 10000000000) (hB : B ≤ w.heap.size) (hd : Nat.blt d n = true)
 (k : ∀ g cap' w1, OwnL sh w1 B e (.slice (some ⟨g, 0, none⟩) (xs ++ [z]).length cap') (xs ++ [z]) → Fr (B ≤ ·) w w1 → LW P n ops Q rest ((d, .slice (some ⟨g, 0, none⟩) (xs ++ [z]).length cap') :: l) w1) :
 LW P n ops Q (⟨some d, .call ⟨.builtin .append, #[x, y], #[t, t]⟩, ty, pos, after, none⟩ :: rest) l w :=
 lw_does (does_appendL T Z ht hE hz hzl hby hsz hx hy hown hr hrep hlen hB) hd (fun v w1 ⟨g, cap, h, ho, hf⟩ => by subst h; exact k g cap w1 ho hf) (fun _ h => h)
end
section
variable {P : Program} {n : Nat} {l : Sl} {S : World → Prop} {w : World} {tab : Tab} {zt : ZTab} {ty : TypeId} {ops : Array Oper} {Q : Exit → Act → World → Prop} {rest : List Oper} {d : Nat} {pos : String} {after : Array Edge}
end
theorem OwnL.rows {α : Type} {sh : Shape α} {w : World} {B e : Nat} {v : Value} {xs : List α} (h : OwnL sh w B e v xs) (hx : xs ≠ []) : ∃ g cap, v = .slice (some ⟨g, 0, none⟩) xs.length cap ∧ B ≤ g ∧ ∀ (i : Nat) (x : α), xs[i]? = some x → ∃ cs, Row w ⟨g, i * sh.sz, none⟩ cs ∧ sh.rep w (fun b => B ≤ b ∧ b ≠ g) x cs := by
 obtain ⟨css, h1, h2, h3⟩ := h.ex
 rcases h1.row with ⟨rfl, hn, -⟩ | ⟨g, cap, rfl, hg, hob, hr⟩
 · exact absurd (List.length_eq_zero_iff.1 hn) hx
 · refine ⟨g, cap, rfl, hg, fun i x hi => ?_⟩
   have hlt : i < xs.length := by
    rcases Nat.lt_or_ge i xs.length with h | h
    · exact h
    · rw [List.getElem?_eq_none h] at hi; cases hi
   have hc : css[i]? = some css[i] := List.getElem?_eq_getElem (by omega); refine ⟨css[i], ?_, sh.mono (h3 i x _ hi hc) (fun b hb => ⟨hb.1, fun e => hb.2 (by rw [hob, e])⟩) (fun _ _ _ _ h => h)⟩; intro j u hj
   have hlen : ∀ cs ∈ css, cs.length = sh.sz := fun cs hcs => by
    obtain ⟨k, hk, rfl⟩ := List.mem_iff_getElem.1 hcs
    exact sh.len (h3 k xs[k] css[k] (List.getElem?_eq_getElem (by omega)) (List.getElem?_eq_getElem hk))
   have hjl : j < sh.sz := by
    rw [← sh.len (h3 i x _ hi hc)]
    rcases Nat.lt_or_ge j css[i].length with h | h
    · exact h
    · rw [List.getElem?_eq_none h] at hj; cases hj
   have hget : css.flatten[i * sh.sz + j]? = some u := by
    have hsp : css = css.take i ++ css[i] :: css.drop (i + 1) := by
     have h1 := (List.take_append_drop i css).symm
     rwa [List.drop_eq_getElem_cons (by omega)] at h1
    have hfl : css.flatten = (css.take i).flatten ++ (css[i] ++ (css.drop (i + 1)).flatten) := by
     refine (congrArg List.flatten hsp).trans ?_; rw [List.flatten_append, List.flatten_cons]
    have htl : (css.take i).flatten.length = i * sh.sz := by
     rw [flatten_length (fun cs hcs => hlen cs (List.mem_of_mem_take hcs)), List.length_take]
     congr 1; omega
    rw [hfl, List.getElem?_append_right (by omega), htl, Nat.add_sub_cancel_left, List.getElem?_append_left (by rw [hlen _ (List.getElem_mem _)]; exact hjl)]
    exact hj
   have := hr.at (i := i * sh.sz + j) hget
   have e : (⟨g, i * sh.sz, none⟩ : Addr).add j = ⟨g, 0 + (i * sh.sz + j), none⟩ := by unfold Addr.add; by_cases h0 : j = 0 <;> simp [h0]
   rw [e]; exact this
theorem OwnL.slice {α : Type} {sh : Shape α} {w : World} {B e : Nat} {v : Value} {xs : List α} (h : OwnL sh w B e v xs) : ∃ a cap, v = .slice a xs.length cap := by
 obtain ⟨css, h1, h2, h3⟩ := h.ex
 rcases h1.row with ⟨rfl, hn, -⟩ | ⟨g, cap, rfl, -⟩
 · exact ⟨none, 0, by rw [hn]⟩
 · exact ⟨_, _, rfl⟩
theorem sits_lt2 {S : Nat → Prop} {w : World} (t : Nd) (a : Option Addr) (h : t.sits S w a) : t.sits (fun b => S b ∧ b < w.heap.size) w a := by
 have key : ∀ N : Nat, (∀ (l : List Nd) (a : Option Addr), rowSize l < N → rowSits S w l a → rowSits (fun b => S b ∧ b < w.heap.size) w l a) := by
  intro N
  induction N with
  | zero => intro l a h; omega
  | succ N ih =>
   intro l a hN h
   cases l with
   | nil => simp [rowSits]
   | cons x r =>
    simp only [rowSits] at h ⊢; obtain ⟨b, o, a', c, rfl, hS, h0, h1, h2, h3, hs, hr⟩ := h; have hb := cell_lt h0; simp only [rowSize] at hN; have hx := Nd.size_pos x; obtain ⟨k, n, s, l⟩ := x; simp only [Nd.size] at hN; refine ⟨b, o, a', c, rfl, ⟨hS, hb⟩, h0, h1, h2, h3, ?_, ih r _ (by omega) hr⟩; simp only [Nd.sits] at hs ⊢
    exact ih l a' (by omega) hs
 obtain ⟨k, n, s, l⟩ := t; simp only [Nd.sits] at h ⊢
 exact key (rowSize l + 1) l a (by omega) h
def ndShape : Shape Nd where
 sz := 4
 rep := fun w S t cs => ∃ a c, cs = t.cells a c ∧ t.sits S w a
 len := fun ⟨_, _, h, _⟩ => by rw [h]; rfl
 one := fun ⟨_, _, h, _⟩ => by rw [h]; rfl
 mono := fun ⟨a, c, h, hs⟩ hS hc => ⟨a, c, h, Nd.sits_mono hS hc _ a hs⟩
 lt := fun ⟨a, c, h, hs⟩ => ⟨a, c, h, sits_lt2 _ a hs⟩
theorem rowSits_of {S : Nat → Prop} {w : World} {g : Nat} (hS : S g) : ∀ (xs : List Nd) (o : Nat), (∀ (i : Nat) (x : Nd), xs[i]? = some x → ∃ a c, Row w ⟨g, o + i * 4, none⟩ (x.cells a c) ∧ x.sits S w a) → rowSits S w xs (some ⟨g, o, none⟩)
 | [], _, _ => by simp [rowSits]
 | x :: r, o, h => by
  simp only [rowSits]; obtain ⟨a, c, hr, hs⟩ := h 0 x rfl; simp only [Nat.zero_mul, Nat.add_zero] at hr; refine ⟨g, o, a, c, rfl, hS, hr.at0 rfl, hr.at (i := 1) rfl, hr.at (i := 2) rfl, hr.at (i := 3) rfl, hs, rowSits_of hS r (o + 4) (fun i y hy => ?_)⟩; obtain ⟨a, c, hr, hs⟩ := h (i + 1) y (by simpa using hy)
  exact ⟨a, c, by rw [show o + 4 + i * 4 = o + (i + 1) * 4 from by omega]; exact hr, hs⟩
theorem OwnL.sits {w : World} {B e : Nat} {a : Option Addr} {len cap : Nat} {xs : List Nd} {S : Nat → Prop} (h : OwnL ndShape w B e (.slice a len cap) xs) (hS : ∀ b, B ≤ b → S b) : rowSits S w xs a := by
 by_cases hx : xs = []
 · subst hx; simp [rowSits]
 · obtain ⟨g, cap', hv, hg, hall⟩ := h.rows hx
   simp only [Value.slice.injEq] at hv; obtain ⟨rfl, -, -⟩ := hv; refine rowSits_of (hS g hg) xs 0 (fun i x hi => ?_); obtain ⟨cs, hr, a, c, rfl, hs⟩ := hall i x hi
   exact ⟨a, c, by simpa [ndShape] using hr, Nd.sits_mono (fun b hb => hS b hb.1) (fun _ _ _ _ h => h) _ _ hs⟩
theorem row_of_cells {w : World} {b o : Nat} {v0 v1 v2 v3 : Value} (h0 : w.cell? ⟨b, o, none⟩ = some v0) (h1 : w.cell? ⟨b, o + 1, none⟩ = some v1) (h2 : w.cell? ⟨b, o + 2, none⟩ = some v2) (h3 : w.cell? ⟨b, o + 3, none⟩ = some v3) : Row w ⟨b, o, none⟩ [v0, v1, v2, v3] := fun i v hi => by
 rcases i with _ | _ | _ | _ | i <;> simp at hi <;> (subst hi; simpa [Addr.add])
theorem kidRows {S : Nat → Prop} {w : World} {l : List Nd} {a : Option Addr} (h : rowSits S w l a) (hl : l ≠ []) : ∃ b o, a = some ⟨b, o, none⟩ ∧ S b ∧ ∀ i t, l[i]? = some t → ∃ a' c, Row w ⟨b, o + i * 4, none⟩ (t.cells a' c) ∧ t.sits S w a' := by
 cases l with
 | nil => exact absurd rfl hl
 | cons x r =>
  obtain ⟨b, o, a', c, rfl, hS, -⟩ := rowSits_get h (i := 0) (t := x) rfl; refine ⟨b, o, rfl, hS, fun i t ht => ?_⟩; obtain ⟨b', o', a', c, he, -, h0, h1, h2, h3, hs⟩ := rowSits_get h ht; simp only [Option.some.injEq, Addr.mk.injEq] at he; obtain ⟨rfl, rfl, -⟩ := he
  exact ⟨a', c, row_of_cells h0 h1 h2 h3, hs⟩
theorem sits_mk {S : Nat → Prop} {w : World} {k n : Int} {s : List UInt8} {l : List Nd} {a : Option Addr} (h : rowSits S w l a) : (Nd.mk k n s l).sits S w a := by simp only [Nd.sits]; exact h
theorem OwnL.lt {α : Type} {sh : Shape α} {w : World} {B e : Nat} {v : Value} {xs : List α} (h : OwnL sh w B e v xs) {k : Nat} (hk : v.ownBlock = some k) : k < w.heap.size := by
 obtain ⟨css, h1, -⟩ := h.ex
 exact (h1.blk hk).2
theorem sits_nil {S : Nat → Prop} {w : World} {k n : Int} {s : List UInt8} {a : Option Addr} : (Nd.mk k n s []).sits S w a := by simp [Nd.sits, rowSits]
theorem Nd.sits.wide {S S' : Nat → Prop} {w : World} {t : Nd} {a : Option Addr} (h : t.sits S w a) (hS : ∀ b, S b → S' b) : t.sits S' w a := Nd.sits_mono hS (fun _ _ _ _ h => h) t a h
section
variable {S : Nat → Prop} {w : World} {k n : Int} {s : List UInt8} {b : Nat} {x y z u : Nd} {xa ya za ua : Option Addr} {xc yc zc uc : Nat}
theorem Blk.sub {vs : List Value} (h : Blk w b vs) (i m : Nat) : Row w ⟨b, i, none⟩ ((vs.drop i).take m) := by
 have := h.row.sub i m
 simpa using this
theorem sits_1 {S1 : Nat → Prop} (h : Blk w b (x.cells xa xc)) (hb : S b) (hx : x.sits S1 w xa) (kx : ∀ b, S1 b → S b) : (Nd.mk k n s [x]).sits S w (some ⟨b, 0, none⟩) := by
 simp only [Nd.sits]; refine rowSits_of hb _ 0 (fun i t ht => ?_)
 match i, ht with
 | 0, ht => simp at ht; subst ht; exact ⟨xa, xc, h.sub 0 4, Nd.sits.wide hx kx⟩
theorem sits_2 {S1 S2 : Nat → Prop} (h : Blk w b (x.cells xa xc ++ y.cells ya yc)) (hb : S b) (hx : x.sits S1 w xa) (kx : ∀ b, S1 b → S b) (hy : y.sits S2 w ya) (ky : ∀ b, S2 b → S b) : (Nd.mk k n s [x, y]).sits S w (some ⟨b, 0, none⟩) := by
 simp only [Nd.sits]; refine rowSits_of hb _ 0 (fun i t ht => ?_)
 match i, ht with
 | 0, ht => simp at ht; subst ht; exact ⟨xa, xc, h.sub 0 4, Nd.sits.wide hx kx⟩
 | 1, ht => simp at ht; subst ht; exact ⟨ya, yc, h.sub 4 4, Nd.sits.wide hy ky⟩
theorem sits_3 {S1 S2 S3 : Nat → Prop} (h : Blk w b (x.cells xa xc ++ y.cells ya yc ++ z.cells za zc)) (hb : S b) (hx : x.sits S1 w xa) (kx : ∀ b, S1 b → S b) (hy : y.sits S2 w ya) (ky : ∀ b, S2 b → S b) (hz : z.sits S3 w za) (kz : ∀ b, S3 b → S b) : (Nd.mk k n s [x, y, z]).sits S w (some ⟨b, 0, none⟩) := by
 simp only [Nd.sits]; refine rowSits_of hb _ 0 (fun i t ht => ?_)
 match i, ht with
 | 0, ht => simp at ht; subst ht; exact ⟨xa, xc, h.sub 0 4, Nd.sits.wide hx kx⟩
 | 1, ht => simp at ht; subst ht; exact ⟨ya, yc, h.sub 4 4, Nd.sits.wide hy ky⟩
 | 2, ht => simp at ht; subst ht; exact ⟨za, zc, h.sub 8 4, Nd.sits.wide hz kz⟩
theorem sits_4 {S1 S2 S3 S4 : Nat → Prop} (h : Blk w b (x.cells xa xc ++ y.cells ya yc ++ z.cells za zc ++ u.cells ua uc)) (hb : S b) (hx : x.sits S1 w xa) (kx : ∀ b, S1 b → S b) (hy : y.sits S2 w ya) (ky : ∀ b, S2 b → S b) (hz : z.sits S3 w za) (kz : ∀ b, S3 b → S b) (hu : u.sits S4 w ua) (ku : ∀ b, S4 b → S b) : (Nd.mk k n s [x, y, z, u]).sits S w (some ⟨b, 0, none⟩) := by
 simp only [Nd.sits]; refine rowSits_of hb _ 0 (fun i t ht => ?_)
 match i, ht with
 | 0, ht => simp at ht; subst ht; exact ⟨xa, xc, h.sub 0 4, Nd.sits.wide hx kx⟩
 | 1, ht => simp at ht; subst ht; exact ⟨ya, yc, h.sub 4 4, Nd.sits.wide hy ky⟩
 | 2, ht => simp at ht; subst ht; exact ⟨za, zc, h.sub 8 4, Nd.sits.wide hz kz⟩
 | 3, ht => simp at ht; subst ht; exact ⟨ua, uc, h.sub 12 4, Nd.sits.wide hu ku⟩
end
end Bk
namespace Bk
open Go Go.RowKit Go.Proofs
attribute [local irreducible] Go.Calls
structure PC where
 pb : Nat
 B : Nat
 ts : List Tok
 n : Int
 a : Option Addr
 cap : Nat
 r : Nat
abbrev Tok.cells (t : Tok) : List Value := [.int .u8 t.kind, str t.text, .int .i64 t.pos]
abbrev Tok.val (t : Tok) : Value := .agg #[.int .u8 t.kind, str t.text, .int .i64 t.pos]
def TokAt (w : World) (b o : Nat) (t : Tok) : Prop := Row w ⟨b, o, none⟩ t.cells
def binMap : List (List UInt8 × Value) := [8, 9, 10, 11, 12, 13, 14, 15, 16, 17, 18, 19, 20, 21, 22, 23].map fun k => (symbol k, .int .u8 k)
abbrev PC.cells (c : PC) (σ : PS) : List Value := [.slice c.a c.ts.length c.cap, .int .i64 σ.at_, .int .i64 c.n, .map (some c.r), .int .i64 σ.off, .int .i64 σ.err]
structure Errs (w : World) : Prop where
 ex : ∃ te pe, w.cell? ⟨3, 0, none⟩ = some (.iface te pe)
theorem Errs.ext {w w' : World} (h : Errs w) (x : Ext w w') : Errs w' := by
 obtain ⟨te, pe, h⟩ := h.ex
 exact ⟨te, pe, x.keep h⟩
theorem Errs.fr {S : Nat → Prop} {w w' : World} (h : Errs w) (x : Fr S w w') (hs : ¬ S 3) : Errs w' := by
 obtain ⟨te, pe, h⟩ := h.ex
 exact ⟨te, pe, x.keep hs h⟩
structure PP (c : PC) (σ : PS) (w : World) : Prop where
 blk : Blk w c.pb (c.cells σ)
 toks : Arr (fun b => b < c.B ∧ b ≠ c.pb) 3 TokAt w c.ts c.a
 map : MapIs w c.r binMap
 pbB : c.pb < c.B
 rB : c.r < c.B
 rne : c.r ≠ c.pb
 B : c.B ≤ w.heap.size
 at_ : σ.at_ ≤ c.ts.length
 len : c.ts.length ≤ 1000000
 tok : ∀ t ∈ c.ts, t.text.length ≤ 1000000
 num : ∀ t ∈ c.ts, t.kind = 2 → t.text ≠ [] ∧ ∀ x ∈ t.text, digit x = true
 errs : Errs w
 gl : 3 < c.pb
theorem PP.ext {c : PC} {σ : PS} {w w' : World} (h : PP c σ w) (x : Ext w w') : PP c σ w' :=
 ⟨h.blk.ext x, h.toks.mono (fun _ h => h) (fun _ _ _ _ _ h => Row.ext h x), h.map.ext x, h.pbB, h.rB, h.rne, Nat.le_trans h.B x.size, h.at_, h.len, h.tok, h.num, h.errs.ext x, h.gl⟩
theorem PP.fr {c : PC} {σ : PS} {S : Nat → Prop} {w w' : World} (h : PP c σ w) (x : Fr S w w') (hs : ∀ k, S k → c.B ≤ k) : PP c σ w' :=
 ⟨h.blk.fr x (fun e => by have := hs _ e; have := h.pbB; omega), h.toks.mono (fun _ h => h) (fun b _ _ _ hb h => Row.fr h x (fun e => by have h1 := hs _ e; have h2 := hb.1; have h3 : c.B ≤ b := h1; omega)), h.map.fr x (fun e => by have := hs _ e; have := h.rB; omega), h.pbB, h.rB, h.rne, Nat.le_trans h.B x.size, h.at_, h.len, h.tok, h.num, h.errs.fr x (fun e => by have := hs _ e; have := h.gl; have := h.pbB; omega), h.gl⟩
theorem PP.put {c : PC} {σ σ' : PS} {w w' : World} (h : PP c σ w) (p : Put w w' c.pb (c.cells σ')) (ha : σ'.at_ ≤ c.ts.length) : PP c σ' w' :=
 ⟨p.blk, h.toks.mono (fun _ h => h) (fun b _ _ _ hb h => Row.fr h p.fr (fun e => hb.2 e)), h.map.fr p.fr (fun e => h.rne e), h.pbB, h.rB, h.rne, Nat.le_trans h.B p.fr.size, ha, h.len, h.tok, h.num, h.errs.fr p.fr (fun e => by have := h.gl; have e' : 3 = c.pb := e; omega), h.gl⟩
section
variable {P : Program} {n : Nat} {ops : Array Oper} {Q : Exit → Act → World → Prop} {rest : List Oper} {l : Sl} {w : World} {tab : Tab} {ty : TypeId} {pos : String} {after : Array Edge}
theorem lw_pp {c : PC} {σ σ' : PS} {x y : Operand} {t sz o : Nat} {s : Sk} {v : Value} (T : TabOk P tab) (ht : lookT tab t = some (s, sz)) (hsz : sz = 1) (hx : ev l x = some (.pointer (some ⟨c.pb, o, none⟩))) (hy : ev l y = some v) (hv : v.cells = #[v]) (h1 : Value.one v = true) (hP : PP c σ w) (ho : Nat.ble (o + 1) 6 = true)
 (he : (c.cells σ).set o v = c.cells σ') (ha : σ'.at_ ≤ c.ts.length) (k : ∀ w1, PP c σ' w1 → Fr (· = c.pb) w w1 → LW P n ops Q rest l w1) : LW P n ops Q (⟨none, .store t x y, ty, pos, after, none⟩ :: rest) l w :=
 lw_store T ht hx hy (us := [v]) hv (by simp [hsz]) (by simp [h1]) hP.blk (by simpa using ho) (fun w1 p => by
  have e : setMany (c.cells σ) o [v] = c.cells σ' := by simp only [setMany]; exact he
  rw [e] at p
  exact k w1 (hP.put p ha) p.fr)
theorem lw_pp_at {c : PC} {σ : PS} {x y : Operand} {t sz : Nat} {s : Sk} (T : TabOk P tab) (ht : lookT tab t = some (s, sz)) (hsz : sz = 1) (hx : ev l x = some (.pointer (some ⟨c.pb, 1, none⟩))) (hy : ev l y = some (.int .i64 ((σ.at_ : Int) + 1))) (hP : PP c σ w) (ha : σ.at_ < c.ts.length)
 (k : ∀ w1, PP c (nextP σ) w1 → Fr (· = c.pb) w w1 → LW P n ops Q rest l w1) : LW P n ops Q (⟨none, .store t x y, ty, pos, after, none⟩ :: rest) l w :=
 lw_pp (σ' := nextP σ) T ht hsz hx hy rfl rfl hP rfl rfl ha k
theorem lw_pp_off {c : PC} {σ : PS} {x y : Operand} {t sz : Nat} {s : Sk} {v : Int} (T : TabOk P tab) (ht : lookT tab t = some (s, sz)) (hsz : sz = 1) (hx : ev l x = some (.pointer (some ⟨c.pb, 4, none⟩))) (hy : ev l y = some (.int .i64 v)) (hP : PP c σ w)
 (k : ∀ w1, PP c ⟨σ.at_, v, σ.err⟩ w1 → Fr (· = c.pb) w w1 → LW P n ops Q rest l w1) : LW P n ops Q (⟨none, .store t x y, ty, pos, after, none⟩ :: rest) l w :=
 lw_pp (σ' := ⟨σ.at_, v, σ.err⟩) T ht hsz hx hy rfl rfl hP rfl rfl hP.at_ k
theorem lw_pp_err {c : PC} {σ : PS} {x y : Operand} {t sz : Nat} {s : Sk} {v : Int} (T : TabOk P tab) (ht : lookT tab t = some (s, sz)) (hsz : sz = 1) (hx : ev l x = some (.pointer (some ⟨c.pb, 5, none⟩))) (hy : ev l y = some (.int .i64 v)) (hP : PP c σ w)
 (k : ∀ w1, PP c ⟨σ.at_, σ.off, v⟩ w1 → Fr (· = c.pb) w w1 → LW P n ops Q rest l w1) : LW P n ops Q (⟨none, .store t x y, ty, pos, after, none⟩ :: rest) l w :=
 lw_pp (σ' := ⟨σ.at_, σ.off, v⟩) T ht hsz hx hy rfl rfl hP rfl rfl hP.at_ k
end
theorem peek_off {ts : List Tok} {σ : PS} (h : σ.err ≠ 0 ∨ σ.at_ = ts.length) : peekP ts σ = Tok.zero := by unfold peekP; rw [if_pos h]
theorem peek_is {ts : List Tok} {σ : PS} (h : ¬ (σ.err ≠ 0 ∨ σ.at_ = ts.length)) (hl : σ.at_ < ts.length) : peekP ts σ = ts[σ.at_] := by unfold peekP; rw [if_neg h]; simp [hl]
set_option maxRecDepth 100000 in
set_option maxHeartbeats 1000000 in
theorem peek_c (c : PC) (σ : PS) (w : World) (hP : PP c σ w) :
 Calls Tryd.prog 31 #[.pointer (some ⟨c.pb, 0, none⟩)] w fun e w' => e = .returned (peekP c.ts σ).val ∧ Ext w w' := by
 have hat := hP.at_; have X := Ext.refl w
 by_cases h : σ.err ≠ 0 ∨ σ.at_ = c.ts.length
 · rw [peek_off h]
   by_cases he : σ.err = 0
   · have ha : σ.at_ = c.ts.length := h.resolve_left (fun e => e he)
     refine calls_in Tryd.func31 Tryd.ntmps31 rfl rfl ?_
     focus
      refine cS ?_; (refine lw_alloc' [_, _, _] zOk rfl rfl ?_; intro b1 w2 n3); have h5 := n3.blk; have x6 := n3.ext; have p7 := n3.pos; have z8 := n3.size; clear n3; replace hP := hP.ext x6; replace X := X.ext x6; clear x6; refine cT (cw_seq (cw_seq ?_)); (refine cw_tdraw (fun wz => Ext w2 wz) 15 (.pure 0 (.pure 1 (.pure 2 (.pure 3 (.pure 4 (.pure 5 (.pure 6 (.pure 7 (.pure 8 (.pure 9 (.pure 10 (.pure 11 (.pure 12 (.pure 13 (.pure 14 .tail))))))))))))))) mixed (by kernel_rfl) (panicOk_then (panicOk_then panicOk_body)) ?_; intro w9 x10 _); have qs11 : (fun wz => Ext w2 wz) w9 := x10; simp only at qs11; have d_h5 := h5; have d_hP := hP; have z12 := x10.size; replace h5 := h5.ext x10; replace hP := hP.ext x10; replace X := X.ext x10; clear x10; refine ⟨qs11, ?_⟩; refine tw_pure rfl (pur_move rfl) rfl (tw_pure rfl (pur_nilCheck rfl) rfl (tw_pure rfl (pur_fieldAddr tabOk rfl rfl rfl) rfl (tw_pure rfl (pur_load tabOk rfl rfl rfl (fun wz hz => Blk.cell (Blk.ext (PP.blk d_hP) hz) rfl)) rfl (tw_pure rfl (pur_neq rfl rfl) rfl (tw_pure rfl (pur_move rfl) rfl ?_))))); refine tw_on rfl rfl rfl rfl (gd_ff (by omega)) (pur_move rfl) rfl ?_; refine tw_on rfl rfl rfl rfl (gd_ff (by omega)) (pur_nilCheck rfl) rfl ?_; refine tw_on rfl rfl rfl rfl (gd_ff (by omega)) (pur_fieldAddr tabOk rfl rfl rfl) rfl ?_; refine tw_on rfl rfl rfl rfl (gd_ff (by omega)) (pur_load tabOk rfl rfl rfl (fun wz hz => Blk.cell (Blk.ext (PP.blk d_hP) hz) rfl)) rfl ?_; refine tw_on rfl rfl rfl rfl (gd_ff (by omega)) (pur_move rfl) rfl ?_
      refine tw_on rfl rfl rfl rfl (gd_ff (by omega)) (pur_nilCheck rfl) rfl ?_; refine tw_on rfl rfl rfl rfl (gd_ff (by omega)) (pur_fieldAddr0 tabOk rfl rfl rfl) rfl ?_; refine tw_on rfl rfl rfl rfl (gd_ff (by omega)) (pur_load tabOk rfl rfl rfl (fun wz hz => Blk.cell (Blk.ext (PP.blk d_hP) hz) rfl)) rfl ?_; refine tw_on rfl rfl rfl rfl (gd_ff (by omega)) (pur_len_slice tabOk rfl rfl) rfl ?_; clear qs11 d_h5 d_hP; refine tw_tail rfl ?_; refine lw_on rfl rfl rfl (gd_ff (by omega)) ?_; refine lw_pure (pur_eql rfl rfl) rfl ?_; refine lw_pure (pur_pick_no rfl rfl (by omega)) rfl ?_; refine cT ?_; refine cw_yes rfl (by omega) ?_; refine cS (lw_pure (pur_build' [_, _, _] tabOk zOk rfl rfl rfl rfl) rfl ?_); (refine lw_store' [_, _, _] [_, _, _] tabOk rfl rfl rfl rfl rfl rfl h5 rfl rfl ?_; intro w13 n14); have h17 := n14.blk; have f15 := n14.fr; have z16 := n14.size; clear n14 h5 hP; replace X := X.fr f15 (by omega); clear f15; refine cT (cw_ret (qw_then_ret (qw_retc rfl tabOk rfl rfl rfl h17 rfl ?_))); rotate_left 1
     exact ⟨rfl, X⟩
   · refine calls_in Tryd.func31 Tryd.ntmps31 rfl rfl ?_
     focus
      refine cS ?_; (refine lw_alloc' [_, _, _] zOk rfl rfl ?_; intro ba1 wa2 na3); have ha5 := na3.blk; have xa6 := na3.ext; have pa7 := na3.pos; have za8 := na3.size; clear na3; replace hP := hP.ext xa6; replace X := X.ext xa6; clear xa6; refine cT (cw_seq (cw_seq ?_)); (refine cw_tdraw (fun wz => Ext wa2 wz) 15 (.pure 0 (.pure 1 (.pure 2 (.pure 3 (.pure 4 (.pure 5 (.pure 6 (.pure 7 (.pure 8 (.pure 9 (.pure 10 (.pure 11 (.pure 12 (.pure 13 (.pure 14 .tail))))))))))))))) mixed (by kernel_rfl) (panicOk_then (panicOk_then panicOk_body)) ?_; intro wa9 xa10 _); have qsa11 : (fun wz => Ext wa2 wz) wa9 := xa10; simp only at qsa11; have d_ha5 := ha5; have d_hP := hP; have za12 := xa10.size; replace ha5 := ha5.ext xa10; replace hP := hP.ext xa10; replace X := X.ext xa10; clear xa10; refine ⟨qsa11, ?_⟩; refine tw_pure rfl (pur_move rfl) rfl (tw_pure rfl (pur_nilCheck rfl) rfl (tw_pure rfl (pur_fieldAddr tabOk rfl rfl rfl) rfl (tw_pure rfl (pur_load tabOk rfl rfl rfl (fun wz hz => Blk.cell (Blk.ext (PP.blk d_hP) hz) rfl)) rfl (tw_pure rfl (pur_neq rfl rfl) rfl (tw_pure rfl (pur_move rfl) rfl ?_))))); refine tw_off rfl rfl rfl rfl (gd_ft (by assumption)) rfl ?_; refine tw_off rfl rfl rfl rfl (gd_ft (by assumption)) rfl ?_; refine tw_off rfl rfl rfl rfl (gd_ft (by assumption)) rfl ?_; refine tw_off rfl rfl rfl rfl (gd_ft (by assumption)) rfl ?_; refine tw_off rfl rfl rfl rfl (gd_ft (by assumption)) rfl ?_; refine tw_off rfl rfl rfl rfl (gd_ft (by assumption)) rfl ?_; refine tw_off rfl rfl rfl rfl (gd_ft (by assumption)) rfl ?_
      refine tw_off rfl rfl rfl rfl (gd_ft (by assumption)) rfl ?_; refine tw_off rfl rfl rfl rfl (gd_ft (by assumption)) rfl ?_; clear qsa11 d_ha5 d_hP; refine tw_tail rfl ?_; refine lw_off rfl rfl rfl (gd_ft (by assumption)) rfl ?_; refine lw_pure (pur_pick_yes rfl rfl (by assumption)) rfl ?_; refine cT (cw_cond_t rfl (cS (lw_pure (pur_build' [_, _, _] tabOk zOk rfl rfl rfl rfl) rfl ?_))); (refine lw_store' [_, _, _] [_, _, _] tabOk rfl rfl rfl rfl rfl rfl ha5 rfl rfl ?_; intro wa13 na14); have ha17 := na14.blk; have fa15 := na14.fr; have za16 := na14.size; clear na14 ha5 hP; replace X := X.fr fa15 (by omega); clear fa15; refine cT (cw_ret (qw_then_ret (qw_retc rfl tabOk rfl rfl rfl ha17 rfl ?_))); rotate_left 1
     exact ⟨rfl, X⟩
 · have he : σ.err = 0 := Decidable.byContradiction fun e => h (Or.inl e)
   have hlt : σ.at_ < c.ts.length := by have : σ.at_ ≠ c.ts.length := fun e => h (Or.inr e); omega
   rw [peek_is h hlt]; obtain ⟨tb, to, hta, -, hrow⟩ := hP.toks.get (by omega); have hr : Row w ⟨tb, to + σ.at_ * 3, none⟩ c.ts[σ.at_].cells := hrow σ.at_ _ (List.getElem?_eq_getElem hlt); clear hrow; refine calls_in Tryd.func31 Tryd.ntmps31 rfl rfl ?_
   focus
    refine cS ?_; (refine lw_alloc' [_, _, _] zOk rfl rfl ?_; intro bb1 wb2 nb3); have hb5 := nb3.blk; have xb6 := nb3.ext; have pb7 := nb3.pos; have zb8 := nb3.size; clear nb3; replace hP := hP.ext xb6; replace X := X.ext xb6; replace hr := hr.ext xb6; clear xb6; refine cT (cw_seq (cw_seq ?_)); (refine cw_tdraw (fun wz => Ext wb2 wz) 15 (.pure 0 (.pure 1 (.pure 2 (.pure 3 (.pure 4 (.pure 5 (.pure 6 (.pure 7 (.pure 8 (.pure 9 (.pure 10 (.pure 11 (.pure 12 (.pure 13 (.pure 14 .tail))))))))))))))) mixed (by kernel_rfl) (panicOk_then (panicOk_then panicOk_body)) ?_; intro wb9 xb10 _); have qsb11 : (fun wz => Ext wb2 wz) wb9 := xb10; simp only at qsb11; have d_hb5 := hb5; have d_hP := hP; have d_hr := hr; have zb12 := xb10.size; replace hb5 := hb5.ext xb10; replace hP := hP.ext xb10; replace X := X.ext xb10; replace hr := hr.ext xb10; clear xb10; refine ⟨qsb11, ?_⟩; refine tw_pure rfl (pur_move rfl) rfl (tw_pure rfl (pur_nilCheck rfl) rfl (tw_pure rfl (pur_fieldAddr tabOk rfl rfl rfl) rfl (tw_pure rfl (pur_load tabOk rfl rfl rfl (fun wz hz => Blk.cell (Blk.ext (PP.blk d_hP) hz) rfl)) rfl (tw_pure rfl (pur_neq rfl rfl) rfl (tw_pure rfl (pur_move rfl) rfl ?_))))); refine tw_on rfl rfl rfl rfl (gd_ff (by omega)) (pur_move rfl) rfl ?_; refine tw_on rfl rfl rfl rfl (gd_ff (by omega)) (pur_nilCheck rfl) rfl ?_; refine tw_on rfl rfl rfl rfl (gd_ff (by omega)) (pur_fieldAddr tabOk rfl rfl rfl) rfl ?_; refine tw_on rfl rfl rfl rfl (gd_ff (by omega)) (pur_load tabOk rfl rfl rfl (fun wz hz => Blk.cell (Blk.ext (PP.blk d_hP) hz) rfl)) rfl ?_
    refine tw_on rfl rfl rfl rfl (gd_ff (by omega)) (pur_move rfl) rfl ?_; refine tw_on rfl rfl rfl rfl (gd_ff (by omega)) (pur_nilCheck rfl) rfl ?_; refine tw_on rfl rfl rfl rfl (gd_ff (by omega)) (pur_fieldAddr0 tabOk rfl rfl rfl) rfl ?_; refine tw_on rfl rfl rfl rfl (gd_ff (by omega)) (pur_load tabOk rfl rfl rfl (fun wz hz => Blk.cell (Blk.ext (PP.blk d_hP) hz) rfl)) rfl ?_; refine tw_on rfl rfl rfl rfl (gd_ff (by omega)) (pur_len_slice tabOk rfl rfl) rfl ?_; clear qsb11 d_hb5 d_hP d_hr; refine tw_tail rfl ?_; refine lw_on rfl rfl rfl (gd_ff (by omega)) ?_; refine lw_pure (pur_eql rfl rfl) rfl ?_; refine lw_pure (pur_pick_no rfl rfl (by omega)) rfl ?_; refine cT ?_; refine cw_no rfl (by omega) ?_; refine cw_skip (qw_then (cw_seq ?_)); (refine cw_tdraw (fun wz => Ext wb9 wz) 8 (.pure 0 (.pure 1 (.pure 2 (.pure 3 (.pure 4 (.pure 5 (.pure 6 (.pure 7 .tail)))))))) mixed (by kernel_rfl) (panicOk_then panicOk_body) ?_; intro wb13 xb14 _); have qsb15 : (fun wz => Ext wb9 wz) wb13 := xb14; simp only at qsb15; have d_hb5 := hb5; have d_hP := hP; have d_hr := hr; have zb16 := xb14.size; replace hb5 := hb5.ext xb14; replace hP := hP.ext xb14; replace X := X.ext xb14; replace hr := hr.ext xb14; clear xb14; refine ⟨qsb15, ?_⟩; refine tw_pure rfl (pur_move rfl) rfl (tw_pure rfl (pur_nilCheck rfl) rfl (tw_pure rfl (pur_fieldAddr0 tabOk rfl rfl rfl) rfl (tw_pure rfl (pur_load tabOk rfl rfl rfl (fun wz hz => Blk.cell (Blk.ext (PP.blk d_hP) hz) rfl)) rfl (tw_pure rfl (pur_move rfl) rfl (tw_pure rfl (pur_nilCheck rfl) rfl (tw_pure rfl (pur_fieldAddr tabOk rfl rfl rfl) rfl (tw_pure rfl (pur_load tabOk rfl rfl rfl (fun wz hz => Blk.cell (Blk.ext (PP.blk d_hP) hz) rfl)) rfl ?_)))))))
    clear qsb15 d_hb5 d_hP d_hr; refine tw_tail rfl ?_; refine lw_pure (pur_indexAddr_eq tabOk rfl rfl rfl (by assumption) rfl (by omega) (by omega)) rfl ?_; refine lw_loads_r0 tabOk rfl rfl rfl hr rfl rfl ?_; (refine lw_store' [_, _, _] [_, _, _] tabOk rfl rfl rfl rfl rfl rfl hb5 rfl rfl ?_; intro wb17 nb18); have hb21 := nb18.blk; have fb19 := nb18.fr; have zb20 := nb18.size; clear nb18 hb5 hP; replace X := X.fr fb19 (by omega); clear hr fb19; refine cT (cw_ret (qw_retc rfl tabOk rfl rfl rfl hb21 rfl ?_)); rotate_left 1
   exact ⟨rfl, X⟩
set_option maxRecDepth 100000 in
set_option maxHeartbeats 1000000 in
theorem fail_c (c : PC) (σ : PS) (off e : Int) (w : World) (hP : PP c σ w) :
 Calls Tryd.prog 30 #[.pointer (some ⟨c.pb, 0, none⟩), .int .i64 off, .int .i64 e] w fun r w' => r = .returned (.tuple #[]) ∧ PP c (failP σ off e) w' ∧ Fr (· = c.pb) w w' := by
 have X := Fr.refl (· = c.pb) w
 by_cases he : σ.err = 0
 · rw [show failP σ off e = ⟨σ.at_, off, e⟩ from by simp [failP, he]]
   refine calls_in Tryd.func30 Tryd.ntmps30 rfl rfl ?_
   focus
    refine cS (cM rfl rfl (lw_pure (pur_nilCheck rfl) rfl (lw_pure (pur_fieldAddr tabOk rfl rfl rfl) rfl (lw_load_b tabOk rfl rfl rfl (PP.blk hP) rfl rfl (lw_pure (pur_eql rfl rfl) rfl (cT ?_)))))); refine cw_yes rfl (by assumption) ?_; refine cw_region (cM rfl rfl (cM rfl rfl (cM rfl rfl (cM rfl rfl (lw_pure (pur_nilCheck rfl) rfl (lw_pure (pur_fieldAddr tabOk rfl rfl rfl) rfl (lw_pp_off tabOk rfl rfl rfl rfl hP ?_))))))); rintro w1 h2 f3; have z4 := f3.size; clear hP; replace X := X.fr f3 (by omega); clear f3; refine lw_pure (pur_nilCheck rfl) rfl (lw_pure (pur_fieldAddr tabOk rfl rfl rfl) rfl ?_); refine lw_pp_err tabOk rfl rfl rfl rfl (by assumption) ?_; rintro w5 h6 f7; have z8 := f7.size; clear h2; replace X := X.fr f7 (by omega); clear f7; refine lw_nil (qw_end0 rfl ?_); rotate_left 1
   exact ⟨rfl, by assumption, X⟩
 · rw [show failP σ off e = σ from by simp [failP, he]]
   refine calls_in Tryd.func30 Tryd.ntmps30 rfl rfl ?_
   focus
    refine cS (cM rfl rfl (lw_pure (pur_nilCheck rfl) rfl (lw_pure (pur_fieldAddr tabOk rfl rfl rfl) rfl (lw_load_b tabOk rfl rfl rfl (PP.blk hP) rfl rfl (lw_pure (pur_eql rfl rfl) rfl (cT ?_)))))); refine cw_no rfl (by assumption) ?_; refine cw_skip (qw_end0 rfl ?_); rotate_left 1
   exact ⟨rfl, hP, X⟩
set_option maxRecDepth 100000 in
set_option maxHeartbeats 1000000 in
theorem unexpected_c (c : PC) (σ : PS) (w : World) (hP : PP c σ w) :
 Calls Tryd.prog 36 #[.pointer (some ⟨c.pb, 0, none⟩)] w fun r w' => r = .returned (.tuple #[]) ∧ PP c (unexpP c.ts c.n σ) w' ∧ Fr (· = c.pb) w w' := by
 have X := Fr.refl (· = c.pb) w
 by_cases hlt : σ.at_ < c.ts.length
 · rw [show unexpP c.ts c.n σ = failP σ (c.ts[σ.at_]).pos 3 from by simp [unexpP, hlt]]
   obtain ⟨tb, to, hta, -, hrow⟩ := hP.toks.get (by omega); have hr : Row w ⟨tb, to + σ.at_ * 3, none⟩ c.ts[σ.at_].cells := hrow σ.at_ _ (List.getElem?_eq_getElem hlt); clear hrow; refine calls_in Tryd.func36 Tryd.ntmps36 rfl rfl ?_
   focus
    refine cw_seq ?_; (refine cw_tdraw (fun wz => Ext w wz) 9 (.pure 0 (.pure 1 (.pure 2 (.pure 3 (.pure 4 (.pure 5 (.pure 6 (.pure 7 (.pure 8 .tail))))))))) mixed (by kernel_rfl) (panicOk_then panicOk_body) ?_; intro w1 x2 _); have qs3 : (fun wz => Ext w wz) w1 := x2; simp only at qs3; have d_hP := hP; have d_hr := hr; have z4 := x2.size; replace hP := hP.ext x2; replace X := X.ext x2; replace hr := hr.ext x2; clear x2; refine ⟨qs3, ?_⟩; refine tw_pure rfl (pur_move rfl) rfl (tw_pure rfl (pur_nilCheck rfl) rfl (tw_pure rfl (pur_fieldAddr tabOk rfl rfl rfl) rfl (tw_pure rfl (pur_load tabOk rfl rfl rfl (fun wz hz => Blk.cell (Blk.ext (PP.blk d_hP) hz) rfl)) rfl (tw_pure rfl (pur_move rfl) rfl (tw_pure rfl (pur_nilCheck rfl) rfl (tw_pure rfl (pur_fieldAddr0 tabOk rfl rfl rfl) rfl (tw_pure rfl (pur_load tabOk rfl rfl rfl (fun wz hz => Blk.cell (Blk.ext (PP.blk d_hP) hz) rfl)) rfl (tw_pure rfl (pur_len_slice tabOk rfl rfl) rfl ?_)))))))); clear qs3 d_hP d_hr; refine tw_tail rfl (lw_pure (pur_lss rfl rfl) rfl (cT ?_)); refine cw_yes rfl (by omega) ?_; (refine cw_tdraw (fun wz => Ext w1 wz) 12 (.pure 0 (.pure 1 (.pure 2 (.pure 3 (.pure 4 (.pure 5 (.pure 6 (.pure 7 (.pure 8 (.pure 9 (.pure 10 (.pure 11 .tail)))))))))))) mixed (by kernel_rfl) panicOk_body ?_; intro w5 x6 _); have qs7 : (fun wz => Ext w1 wz) w5 := x6; simp only at qs7; have d_hP := hP; have d_hr := hr; have z8 := x6.size; replace hP := hP.ext x6; replace X := X.ext x6; replace hr := hr.ext x6; clear x6; refine ⟨qs7, ?_⟩
    refine tw_pure rfl (pur_move rfl) rfl (tw_pure rfl (pur_move rfl) rfl (tw_pure rfl (pur_nilCheck rfl) rfl (tw_pure rfl (pur_fieldAddr0 tabOk rfl rfl rfl) rfl (tw_pure rfl (pur_load tabOk rfl rfl rfl (fun wz hz => Blk.cell (Blk.ext (PP.blk d_hP) hz) rfl)) rfl (tw_pure rfl (pur_move rfl) rfl (tw_pure rfl (pur_nilCheck rfl) rfl (tw_pure rfl (pur_fieldAddr tabOk rfl rfl rfl) rfl (tw_pure rfl (pur_load tabOk rfl rfl rfl (fun wz hz => Blk.cell (Blk.ext (PP.blk d_hP) hz) rfl)) rfl ?_)))))))); refine tw_pure rfl (pur_indexAddr_eq tabOk rfl rfl rfl (by assumption) rfl (by omega) (by omega)) rfl ?_; refine tw_pure rfl (pur_fieldAddr tabOk rfl rfl rfl) rfl (tw_pure rfl (pur_load tabOk rfl rfl rfl (fun wz hz => Row.at (Row.ext d_hr hz) rfl)) rfl ?_); clear qs7 d_hP d_hr; refine tw_tail rfl ?_; refine cC (by kernel_rfl) rfl (fail_c _ _ _ _ _ (by assumption)) rfl ?_; rintro _ w11 ⟨⟨⟩, ⟨h9, f10⟩⟩; have z12 := f10.size; clear hP; replace X := X.fr f10 (by omega); clear hr f10; refine lw_nil (qw_end0 rfl ?_); rotate_left 1
   exact ⟨rfl, by assumption, X⟩
 · rw [show unexpP c.ts c.n σ = failP σ c.n 4 from by simp [unexpP, hlt]]
   refine calls_in Tryd.func36 Tryd.ntmps36 rfl rfl ?_
   focus
    refine cw_seq ?_; (refine cw_tdraw (fun wz => Ext w wz) 9 (.pure 0 (.pure 1 (.pure 2 (.pure 3 (.pure 4 (.pure 5 (.pure 6 (.pure 7 (.pure 8 .tail))))))))) mixed (by kernel_rfl) (panicOk_then panicOk_body) ?_; intro wa1 xa2 _); have qsa3 : (fun wz => Ext w wz) wa1 := xa2; simp only at qsa3; have d_hP := hP; have za4 := xa2.size; replace hP := hP.ext xa2; replace X := X.ext xa2; clear xa2; refine ⟨qsa3, ?_⟩; refine tw_pure rfl (pur_move rfl) rfl (tw_pure rfl (pur_nilCheck rfl) rfl (tw_pure rfl (pur_fieldAddr tabOk rfl rfl rfl) rfl (tw_pure rfl (pur_load tabOk rfl rfl rfl (fun wz hz => Blk.cell (Blk.ext (PP.blk d_hP) hz) rfl)) rfl (tw_pure rfl (pur_move rfl) rfl (tw_pure rfl (pur_nilCheck rfl) rfl (tw_pure rfl (pur_fieldAddr0 tabOk rfl rfl rfl) rfl (tw_pure rfl (pur_load tabOk rfl rfl rfl (fun wz hz => Blk.cell (Blk.ext (PP.blk d_hP) hz) rfl)) rfl (tw_pure rfl (pur_len_slice tabOk rfl rfl) rfl ?_)))))))); clear qsa3 d_hP; refine tw_tail rfl (lw_pure (pur_lss rfl rfl) rfl (cT ?_)); refine cw_no rfl (by omega) ?_; refine cw_region (cM rfl rfl (cM rfl rfl (lw_pure (pur_nilCheck rfl) rfl (lw_pure (pur_fieldAddr tabOk rfl rfl rfl) rfl (lw_load_b tabOk rfl rfl rfl (PP.blk hP) rfl rfl ?_))))); refine cC (by kernel_rfl) rfl (fail_c _ _ _ _ _ (by assumption)) rfl ?_; rintro _ wa7 ⟨⟨⟩, ⟨ha5, fa6⟩⟩; have za8 := fa6.size; clear hP; replace X := X.fr fa6 (by omega); clear fa6; refine lw_nil (qw_end0 rfl ?_); rotate_left 1
   exact ⟨rfl, by assumption, X⟩
set_option maxRecDepth 100000 in
set_option maxHeartbeats 1000000 in
theorem accept_c (c : PC) (σ : PS) (t : List UInt8) (w : World) (hP : PP c σ w) (ht : t ≠ []) :
 Calls Tryd.prog 46 #[.pointer (some ⟨c.pb, 0, none⟩), str t] w fun r w' => r = .returned (.bool (hasP c.ts σ t)) ∧ PP c (acceptP c.ts σ t) w' ∧ Fr (· = c.pb) w w' := by
 have X := Fr.refl (· = c.pb) w; have hl := hP.len
 by_cases h : (peekP c.ts σ).text = t
 · have h1 : hasP c.ts σ t = true := by simp [hasP, h]
   rw [show acceptP c.ts σ t = nextP σ from by simp [acceptP, h1], h1]; obtain ⟨h2, h3⟩ := has_in hP.at_ h1 ht; refine calls_in Tryd.func46 Tryd.ntmps46 rfl rfl ?_
   focus
    refine cS (cA rfl rfl (cT (cw_seq (cS (cM rfl rfl ?_))))); refine cC (by kernel_rfl) rfl (peek_c _ _ _ (by assumption)) rfl ?_; rintro _ w2 ⟨⟨⟩, x1⟩; have z3 := x1.size; replace hP := hP.ext x1; replace X := X.ext x1; clear x1; refine lw_pure (pur_field tabOk rfl rfl rfl rfl rfl rfl) rfl (cM rfl rfl (lw_pure (pur_sneq rfl rfl) rfl (cT ?_))); refine cw_no rfl (not_not_intro (by assumption)) ?_; refine cw_skip (qw_then (cS (cM rfl rfl (lw_pure (pur_nilCheck rfl) rfl (lw_pure (pur_fieldAddr tabOk rfl rfl rfl) rfl (lw_load_b tabOk rfl rfl rfl (PP.blk hP) rfl rfl ?_)))))); refine lw_pure (pur_add rfl rfl (IntWalk.i64_in _ (by omega))) rfl ?_; refine lw_pure (pur_nilCheck rfl) rfl (lw_pure (pur_fieldAddr tabOk rfl rfl rfl) rfl ?_); refine lw_pp_at tabOk rfl rfl rfl rfl (by assumption) h3 ?_; rintro w4 h5 f6; have z7 := f6.size; clear hP; replace X := X.fr f6 (by omega); clear f6; refine cN (cA rfl rfl (cT (cw_ret (qw_ret1 rfl rfl ?_)))); rotate_left 1
   exact ⟨rfl, by assumption, X⟩
 · have h1 : hasP c.ts σ t = false := by simp [hasP, h]
   rw [show acceptP c.ts σ t = σ from by simp [acceptP, h1], h1]; refine calls_in Tryd.func46 Tryd.ntmps46 rfl rfl ?_
   focus
    refine cS (cA rfl rfl (cT (cw_seq (cS (cM rfl rfl ?_))))); refine cC (by kernel_rfl) rfl (peek_c _ _ _ (by assumption)) rfl ?_; rintro _ wa2 ⟨⟨⟩, xa1⟩; have za3 := xa1.size; replace hP := hP.ext xa1; replace X := X.ext xa1; clear xa1; refine lw_pure (pur_field tabOk rfl rfl rfl rfl rfl rfl) rfl (cM rfl rfl (lw_pure (pur_sneq rfl rfl) rfl (cT ?_))); refine cw_yes rfl (by assumption) ?_; refine cS (cA rfl rfl (cT (cw_ret (qw_then_ret (qw_ret1 rfl rfl ?_))))); rotate_left 1
   exact ⟨rfl, by assumption, X⟩
theorem accept_t (c : PC) (σ : PS) (t : List UInt8) (w : World) (hP : PP c σ w) (ht : t ≠ []) (h : hasP c.ts σ t = true) :
 Calls Tryd.prog 46 #[.pointer (some ⟨c.pb, 0, none⟩), str t] w fun r w' => r = .returned (.bool true) ∧ PP c (nextP σ) w' ∧ Fr (· = c.pb) w w' := by
 have := accept_c c σ t w hP ht; rw [show acceptP c.ts σ t = nextP σ from by simp [acceptP, h], h] at this
 exact this
theorem accept_f (c : PC) (σ : PS) (t : List UInt8) (w : World) (hP : PP c σ w) (ht : t ≠ []) (h : hasP c.ts σ t = false) :
 Calls Tryd.prog 46 #[.pointer (some ⟨c.pb, 0, none⟩), str t] w fun r w' => r = .returned (.bool false) ∧ PP c σ w' ∧ Fr (· = c.pb) w w' := by
 have := accept_c c σ t w hP ht; rw [show acceptP c.ts σ t = σ from by simp [acceptP, h], h] at this
 exact this
set_option maxRecDepth 100000 in
set_option maxHeartbeats 1000000 in
theorem expect_c (c : PC) (σ : PS) (t : List UInt8) (w : World) (hP : PP c σ w) (ht : t ≠ []) :
 Calls Tryd.prog 34 #[.pointer (some ⟨c.pb, 0, none⟩), str t] w fun r w' => r = .returned (.tuple #[]) ∧ PP c (expectP c.ts c.n σ t) w' ∧ Fr (· = c.pb) w w' := by
 have X := Fr.refl (· = c.pb) w
 cases h : hasP c.ts σ t
 · have e1 : acceptP c.ts σ t = σ := by simp [acceptP, h]
   have e2 : expectP c.ts c.n σ t = unexpP c.ts c.n σ := by simp [expectP, h]
   rw [e2]; refine calls_in Tryd.func34 Tryd.ntmps34 rfl rfl ?_
   focus
    refine cS (cM rfl rfl (cM rfl rfl ?_)); refine cC (by kernel_rfl) rfl (accept_c _ _ _ _ (by assumption) (by assumption)) rfl ?_; rintro _ w3 ⟨⟨⟩, ⟨h1, f2⟩⟩; have z4 := f2.size; clear hP; replace X := X.fr f2 (by omega); clear f2; refine lw_pure (pur_not rfl) rfl (cT ?_); refine cw_nt rfl (by assumption) ?_; refine cw_region (cM rfl rfl ?_); refine cC (by kernel_rfl) rfl (unexpected_c _ _ _ (by assumption)) rfl ?_; rintro _ w7 ⟨⟨⟩, ⟨h5, f6⟩⟩; have z8 := f6.size; clear h1; replace X := X.fr f6 (by omega); clear f6; refine lw_nil (qw_end0 rfl ?_); rotate_left 1
   exact ⟨rfl, by rw [e1] at *; assumption, X⟩
 · have e1 : acceptP c.ts σ t = nextP σ := by simp [acceptP, h]
   have e2 : expectP c.ts c.n σ t = nextP σ := by simp [expectP, h]
   rw [e2]; refine calls_in Tryd.func34 Tryd.ntmps34 rfl rfl ?_
   focus
    refine cS (cM rfl rfl (cM rfl rfl ?_)); refine cC (by kernel_rfl) rfl (accept_c _ _ _ _ (by assumption) (by assumption)) rfl ?_; rintro _ wa3 ⟨⟨⟩, ⟨ha1, fa2⟩⟩; have za4 := fa2.size; clear hP; replace X := X.fr fa2 (by omega); clear fa2; refine lw_pure (pur_not rfl) rfl (cT ?_); refine cw_nf rfl (by assumption) ?_; refine cw_skip (qw_end0 rfl ?_); rotate_left 1
   exact ⟨rfl, by rw [e1] at *; assumption, X⟩
end Bk
namespace Go.Proofs
open Go.Shelf
def Tryd.lays137_ren : Go.Shelf.Ren := ⟨fun | 137 => 52 | 217 => 60 | 266 => 72 | n => n, fun | 9 => 9 | 5 => 5 | 3 => 3 | n => n, fun | n => n⟩
theorem Tryd.lays137 : Go.Proofs.Lays.n137 Tryd.prog Tryd.lays137_ren := {
 mixed := by kernel_rfl
 f137 := Tryd.func52.trans (congrArg some (by kernel_rfl))
 f217 := Tryd.func60.trans (congrArg some (by kernel_rfl))
 f266 := Tryd.func72.trans (congrArg some (by kernel_rfl))
 t3 := Tryd.underlying3
 a3 := Tryd.isAgg3
 z3 := Tryd.sizeOf3
 v3 := Tryd.zeroValue3
 t5 := Tryd.underlying5
 a5 := Tryd.isAgg5
 z5 := Tryd.sizeOf5
 v5 := Tryd.zeroValue5
 t9 := Tryd.underlying9
 a9 := Tryd.isAgg9
 z9 := Tryd.sizeOf9
 v9 := Tryd.zeroValue9 }
open Go.RowKit in
theorem Tryd.strings_IndexByte (s : ByteArray) (c : Int) (w : World) :
 Calls Tryd.prog 52 #[.string s, .int .u8 c] w fun e w' => e = .returned (.int .i64 (Lib.indexByte s.data.toList c.toNat.toUInt8)) ∧ w' = w := Any.strings_IndexByte Tryd.lays137 s c w
def Tryd.lays244_ren : Go.Shelf.Ren := ⟨fun | 244 => 64 | 247 => 73 | 287 => 79 | 321 => 83 | 322 => 84 | n => n, fun | 9 => 9 | 3 => 3 | 75 => 93 | 4 => 4 | 5 => 5 | 167 => 100 | 37 => 22 | 0 => 0 | 85 => 101 | 2 => 2 | 53 => 55 | 175 => 106 | 46 => 108 | 21 => 21 | 80 => 87 | n => n, fun | n => n⟩
theorem Tryd.lays244 : Go.Proofs.Lays.n244 Tryd.prog Tryd.lays244_ren := {
 mixed := by kernel_rfl
 f244 := Tryd.func64.trans (congrArg some (by kernel_rfl))
 f247 := Tryd.func73.trans (congrArg some (by kernel_rfl))
 f287 := Tryd.func79.trans (congrArg some (by kernel_rfl))
 f321 := Tryd.func83.trans (congrArg some (by kernel_rfl))
 f322 := Tryd.func84.trans (congrArg some (by kernel_rfl))
 t0 := Tryd.underlying0
 a0 := Tryd.isAgg0
 z0 := Tryd.sizeOf0
 v0 := Tryd.zeroValue0
 t2 := Tryd.underlying2
 a2 := Tryd.isAgg2
 z2 := Tryd.sizeOf2
 v2 := Tryd.zeroValue2
 t3 := Tryd.underlying3
 a3 := Tryd.isAgg3
 z3 := Tryd.sizeOf3
 v3 := Tryd.zeroValue3
 t4 := Tryd.underlying4
 a4 := Tryd.isAgg4
 z4 := Tryd.sizeOf4
 v4 := Tryd.zeroValue4
 t5 := Tryd.underlying5
 a5 := Tryd.isAgg5
 z5 := Tryd.sizeOf5
 v5 := Tryd.zeroValue5
 t9 := Tryd.underlying9
 a9 := Tryd.isAgg9
 z9 := Tryd.sizeOf9
 v9 := Tryd.zeroValue9
 t21 := Tryd.underlying21
 a21 := Tryd.isAgg21
 z21 := Tryd.sizeOf21
 v21 := Tryd.zeroValue21
 t37 := Tryd.underlying22
 a37 := Tryd.isAgg22
 z37 := Tryd.sizeOf22
 v37 := Tryd.zeroValue22
 t46 := Tryd.underlying108
 a46 := Tryd.isAgg108
 z46 := Tryd.sizeOf108
 v46 := Tryd.zeroValue108
 t53 := Tryd.underlying55
 a53 := Tryd.isAgg55
 z53 := Tryd.sizeOf55
 v53 := Tryd.zeroValue55
 t75 := Tryd.underlying93
 a75 := Tryd.isAgg93
 z75 := Tryd.sizeOf93
 v75 := Tryd.zeroValue93
 t85 := Tryd.underlying101
 a85 := Tryd.isAgg101
 z85 := Tryd.sizeOf101
 v85 := Tryd.zeroValue101
 t167 := Tryd.underlying100
 a167 := Tryd.isAgg100
 z167 := Tryd.sizeOf100
 v167 := Tryd.zeroValue100
 t175 := Tryd.underlying106
 a175 := Tryd.isAgg106
 z175 := Tryd.sizeOf106
 v175 := Tryd.zeroValue106 }
open Go.RowKit in
theorem Tryd.internal_strconv_Atoi (s : ByteArray) (n : Int) (hl : s.size ≤ 18) (h : Lib.atoi s.data.toList = some n) (w : World) :
 Calls Tryd.prog 64 #[.string s] w fun e w' => e = .returned (.tuple #[.int .i64 n, .nilIface]) ∧ ∃ t, w' = Lib.bytesWorld w 5 t := Any.internal_strconv_Atoi Tryd.lays244 s n hl h w
def Tryd.lays172_ren : Go.Shelf.Ren := ⟨fun | 172 => 57 | 244 => 64 | 245 => 65 | 247 => 73 | 279 => 74 | 280 => 75 | 281 => 76 | 282 => 77 | 287 => 79 | 316 => 80 | 171 => 82 | 205 => 81 | 321 => 83 | 322 => 84 | 243 => 85 | 246 => 86 | 283 => 87 | 284 => 88 | 285 => 89 | 286 => 90 | 129 => 92 | 317 => 91 | 318 => 93 | 319 => 94 | 320 => 95 | 337 => 96 | 338 => 97 | n => n, fun | 9 => 9 | 3 => 3 | 75 => 93 | 76 => 94 | 4 => 4 | 5 => 5 | 167 => 100 | 37 => 22 | 0 => 0 | 85 => 101 | 2 => 2 | 168 => 103 | 53 => 55 | 175 => 106 | 46 => 108 | 210 => 111 | 127 => 115 | 145 => 118 | 143 => 116 | 21 => 21 | 171 => 120 | 173 => 123 | 212 => 127 | 51 => 128 | 20 => 20 | 213 => 129 | 232 => 133 | 233 => 134 | 80 => 87 | n => n, fun | 15 => 2 | 16 => 3 | 17 => 4 | 18 => 5 | 19 => 6 | n => n⟩
theorem Tryd.lays172 : Go.Proofs.Lays.n172 Tryd.prog Tryd.lays172_ren := {
 mixed := by kernel_rfl
 f129 := Tryd.func92.trans (congrArg some (by kernel_rfl))
 f171 := Tryd.func82.trans (congrArg some (by kernel_rfl))
 f172 := Tryd.func57.trans (congrArg some (by kernel_rfl))
 f205 := Tryd.func81.trans (congrArg some (by kernel_rfl))
 f243 := Tryd.func85.trans (congrArg some (by kernel_rfl))
 f244 := Tryd.func64.trans (congrArg some (by kernel_rfl))
 f245 := Tryd.func65.trans (congrArg some (by kernel_rfl))
 f246 := Tryd.func86.trans (congrArg some (by kernel_rfl))
 f247 := Tryd.func73.trans (congrArg some (by kernel_rfl))
 f279 := Tryd.func74.trans (congrArg some (by kernel_rfl))
 f280 := Tryd.func75.trans (congrArg some (by kernel_rfl))
 f281 := Tryd.func76.trans (congrArg some (by kernel_rfl))
 f282 := Tryd.func77.trans (congrArg some (by kernel_rfl))
 f283 := Tryd.func87.trans (congrArg some (by kernel_rfl))
 f284 := Tryd.func88.trans (congrArg some (by kernel_rfl))
 f285 := Tryd.func89.trans (congrArg some (by kernel_rfl))
 f286 := Tryd.func90.trans (congrArg some (by kernel_rfl))
 f287 := Tryd.func79.trans (congrArg some (by kernel_rfl))
 f316 := Tryd.func80.trans (congrArg some (by kernel_rfl))
 f317 := Tryd.func91.trans (congrArg some (by kernel_rfl))
 f318 := Tryd.func93.trans (congrArg some (by kernel_rfl))
 f319 := Tryd.func94.trans (congrArg some (by kernel_rfl))
 f320 := Tryd.func95.trans (congrArg some (by kernel_rfl))
 f321 := Tryd.func83.trans (congrArg some (by kernel_rfl))
 f322 := Tryd.func84.trans (congrArg some (by kernel_rfl))
 f337 := Tryd.func96.trans (congrArg some (by kernel_rfl))
 f338 := Tryd.func97.trans (congrArg some (by kernel_rfl))
 t0 := Tryd.underlying0
 a0 := Tryd.isAgg0
 z0 := Tryd.sizeOf0
 v0 := Tryd.zeroValue0
 t2 := Tryd.underlying2
 a2 := Tryd.isAgg2
 z2 := Tryd.sizeOf2
 v2 := Tryd.zeroValue2
 t3 := Tryd.underlying3
 a3 := Tryd.isAgg3
 z3 := Tryd.sizeOf3
 v3 := Tryd.zeroValue3
 t4 := Tryd.underlying4
 a4 := Tryd.isAgg4
 z4 := Tryd.sizeOf4
 v4 := Tryd.zeroValue4
 t5 := Tryd.underlying5
 a5 := Tryd.isAgg5
 z5 := Tryd.sizeOf5
 v5 := Tryd.zeroValue5
 t9 := Tryd.underlying9
 a9 := Tryd.isAgg9
 z9 := Tryd.sizeOf9
 v9 := Tryd.zeroValue9
 t20 := Tryd.underlying20
 a20 := Tryd.isAgg20
 z20 := Tryd.sizeOf20
 v20 := Tryd.zeroValue20
 t21 := Tryd.underlying21
 a21 := Tryd.isAgg21
 z21 := Tryd.sizeOf21
 v21 := Tryd.zeroValue21
 t37 := Tryd.underlying22
 a37 := Tryd.isAgg22
 z37 := Tryd.sizeOf22
 v37 := Tryd.zeroValue22
 t46 := Tryd.underlying108
 a46 := Tryd.isAgg108
 z46 := Tryd.sizeOf108
 v46 := Tryd.zeroValue108
 t51 := Tryd.underlying128
 a51 := Tryd.isAgg128
 z51 := Tryd.sizeOf128
 v51 := Tryd.zeroValue128
 t53 := Tryd.underlying55
 a53 := Tryd.isAgg55
 z53 := Tryd.sizeOf55
 v53 := Tryd.zeroValue55
 t75 := Tryd.underlying93
 a75 := Tryd.isAgg93
 z75 := Tryd.sizeOf93
 v75 := Tryd.zeroValue93
 t76 := Tryd.underlying94
 a76 := Tryd.isAgg94
 z76 := Tryd.sizeOf94
 v76 := Tryd.zeroValue94
 t85 := Tryd.underlying101
 a85 := Tryd.isAgg101
 z85 := Tryd.sizeOf101
 v85 := Tryd.zeroValue101
 t127 := Tryd.underlying115
 a127 := Tryd.isAgg115
 z127 := Tryd.sizeOf115
 v127 := Tryd.zeroValue115
 t143 := Tryd.underlying116
 a143 := Tryd.isAgg116
 z143 := Tryd.sizeOf116
 v143 := Tryd.zeroValue116
 t145 := Tryd.underlying118
 a145 := Tryd.isAgg118
 z145 := Tryd.sizeOf118
 v145 := Tryd.zeroValue118
 t167 := Tryd.underlying100
 a167 := Tryd.isAgg100
 z167 := Tryd.sizeOf100
 v167 := Tryd.zeroValue100
 t168 := Tryd.underlying103
 a168 := Tryd.isAgg103
 z168 := Tryd.sizeOf103
 v168 := Tryd.zeroValue103
 t171 := Tryd.underlying120
 a171 := Tryd.isAgg120
 z171 := Tryd.sizeOf120
 v171 := Tryd.zeroValue120
 t173 := Tryd.underlying123
 a173 := Tryd.isAgg123
 z173 := Tryd.sizeOf123
 v173 := Tryd.zeroValue123
 t175 := Tryd.underlying106
 a175 := Tryd.isAgg106
 z175 := Tryd.sizeOf106
 v175 := Tryd.zeroValue106
 t210 := Tryd.underlying111
 a210 := Tryd.isAgg111
 z210 := Tryd.sizeOf111
 v210 := Tryd.zeroValue111
 t212 := Tryd.underlying127
 a212 := Tryd.isAgg127
 z212 := Tryd.sizeOf127
 v212 := Tryd.zeroValue127
 t213 := Tryd.underlying129
 a213 := Tryd.isAgg129
 z213 := Tryd.sizeOf129
 t232 := Tryd.underlying133
 a232 := Tryd.isAgg133
 z232 := Tryd.sizeOf133
 v232 := Tryd.zeroValue133
 t233 := Tryd.underlying134
 a233 := Tryd.isAgg134
 z233 := Tryd.sizeOf134
 v233 := Tryd.zeroValue134
 g15 := by kernel_rfl
 g16 := by kernel_rfl
 g17 := by kernel_rfl
 g18 := by kernel_rfl
 g19 := by kernel_rfl }
open Go.RowKit in
theorem Tryd.strconv_Atoi (s : ByteArray) (n : Int) (hl : s.size ≤ 18) (h : Lib.atoi s.data.toList = some n) (w : World) :
 Calls Tryd.prog 57 #[.string s] w fun e w' => e = .returned (.tuple #[.int .i64 n, .nilIface]) ∧ ∃ t, w' = Lib.bytesWorld w 5 t := Any.strconv_Atoi Tryd.lays172 s n hl h w
def Tryd.lays129_ren : Go.Shelf.Ren := ⟨fun | 129 => 92 | n => n, fun | 53 => 55 | 3 => 3 | 4 => 4 | 46 => 108 | 5 => 5 | 9 => 9 | n => n, fun | n => n⟩
def Tryd.lays317_ren : Go.Shelf.Ren := ⟨fun | 317 => 91 | n => n, fun | 3 => 3 | 46 => 108 | n => n, fun | n => n⟩
theorem Tryd.lays317 : Go.Proofs.Lays.n317 Tryd.prog Tryd.lays317_ren := {
 mixed := by kernel_rfl
 f317 := Tryd.func91.trans (congrArg some (by kernel_rfl))
 t3 := Tryd.underlying3
 a3 := Tryd.isAgg3
 z3 := Tryd.sizeOf3
 v3 := Tryd.zeroValue3
 t46 := Tryd.underlying108
 a46 := Tryd.isAgg108
 z46 := Tryd.sizeOf108
 v46 := Tryd.zeroValue108 }
open Go.Lib in
theorem Tryd.internal_strconv_log10Pow2 (x : Nat) (h : x ≤ 64) (w : World) :
 Calls Tryd.prog 91 #[.int .i64 x] w fun e w' => e = .returned (.int .i64 (Lib.l10 x)) ∧ w' = w := Any.internal_strconv_log10Pow2 Tryd.lays317 x h w
def Tryd.lays318_ren : Go.Shelf.Ren := ⟨fun | 318 => 93 | n => n, fun | 3 => 3 | 4 => 4 | n => n, fun | n => n⟩
theorem Tryd.lays318 : Go.Proofs.Lays.n318 Tryd.prog Tryd.lays318_ren := {
 mixed := by kernel_rfl
 f318 := Tryd.func93.trans (congrArg some (by kernel_rfl))
 t3 := Tryd.underlying3
 a3 := Tryd.isAgg3
 z3 := Tryd.sizeOf3
 v3 := Tryd.zeroValue3
 t4 := Tryd.underlying4
 a4 := Tryd.isAgg4
 z4 := Tryd.sizeOf4
 v4 := Tryd.zeroValue4 }
open Go.Lib in
theorem Tryd.internal_strconv_bool2_int (b : Bool) (w : World) :
 Calls Tryd.prog 93 #[.bool b] w fun e w' => e = .returned (.int .i64 (if b then 1 else 0)) ∧ w' = w := Any.internal_strconv_bool2_int Tryd.lays318 b w
def Tryd.lays283_ren : Go.Shelf.Ren := ⟨fun | 283 => 87 | n => n, fun | 3 => 3 | 9 => 9 | 4 => 4 | n => n, fun | n => n⟩
theorem Tryd.lays283 : Go.Proofs.Lays.n283 Tryd.prog Tryd.lays283_ren := {
 mixed := by kernel_rfl
 f283 := Tryd.func87.trans (congrArg some (by kernel_rfl))
 t3 := Tryd.underlying3
 a3 := Tryd.isAgg3
 z3 := Tryd.sizeOf3
 v3 := Tryd.zeroValue3
 t4 := Tryd.underlying4
 a4 := Tryd.isAgg4
 z4 := Tryd.sizeOf4
 v4 := Tryd.zeroValue4
 t9 := Tryd.underlying9
 a9 := Tryd.isAgg9
 z9 := Tryd.sizeOf9
 v9 := Tryd.zeroValue9 }
open Go.Lib in
theorem Tryd.internal_strconv_small (i : Nat) (h : i < 100) (w : World) :
 Calls Tryd.prog 87 #[.int .i64 i] w fun e w' => e = .returned (.string ⟨(Lib.decDigits i).toArray⟩) ∧ w' = w := Any.internal_strconv_small Tryd.lays283 i h w
def Tryd.laysM284_ren : Go.Shelf.Ren := ⟨fun | 284 => 88 | 129 => 92 | 317 => 91 | 318 => 93 | n => n, fun | 53 => 55 | 3 => 3 | 212 => 127 | 0 => 0 | 4 => 4 | 46 => 108 | 5 => 5 | 9 => 9 | n => n, fun | 17 => 4 | n => n⟩
theorem Tryd.laysM284 : Go.Proofs.LaysM.n284 Tryd.prog Tryd.laysM284_ren := {
 mixed := by kernel_rfl
 f129 := Tryd.func92.trans (congrArg some (by kernel_rfl))
 f284 := Tryd.func88.trans (congrArg some (by kernel_rfl))
 f317 := Tryd.func91.trans (congrArg some (by kernel_rfl))
 f318 := Tryd.func93.trans (congrArg some (by kernel_rfl))
 t0 := Tryd.underlying0
 a0 := Tryd.isAgg0
 z0 := Tryd.sizeOf0
 v0 := Tryd.zeroValue0
 t3 := Tryd.underlying3
 a3 := Tryd.isAgg3
 z3 := Tryd.sizeOf3
 v3 := Tryd.zeroValue3
 t4 := Tryd.underlying4
 a4 := Tryd.isAgg4
 z4 := Tryd.sizeOf4
 v4 := Tryd.zeroValue4
 t5 := Tryd.underlying5
 a5 := Tryd.isAgg5
 z5 := Tryd.sizeOf5
 v5 := Tryd.zeroValue5
 t9 := Tryd.underlying9
 a9 := Tryd.isAgg9
 z9 := Tryd.sizeOf9
 v9 := Tryd.zeroValue9
 t46 := Tryd.underlying108
 a46 := Tryd.isAgg108
 z46 := Tryd.sizeOf108
 v46 := Tryd.zeroValue108
 t53 := Tryd.underlying55
 a53 := Tryd.isAgg55
 z53 := Tryd.sizeOf55
 v53 := Tryd.zeroValue55
 t212 := Tryd.underlying127
 a212 := Tryd.isAgg127
 z212 := Tryd.sizeOf127
 v212 := Tryd.zeroValue127
 g17 := by kernel_rfl
 i0 := by kernel_rfl
 i3 := by kernel_rfl
 i4 := by kernel_rfl
 i5 := by kernel_rfl
 i9 := by kernel_rfl
 i46 := by kernel_rfl
 i53 := by kernel_rfl
 i212 := by kernel_rfl
 m17 := by kernel_rfl }
open Go.Lib in
theorem Tryd.internal_strconv_numDigits (u : Nat) (h1 : 1 ≤ u) (h2 : u < 18446744073709551616) (w : World) (htab : Lib.TabIs Tryd.prog w "internal/strconv.uint64pow10" .u64 Lib.pow10Tab) :
 Calls Tryd.prog 88 #[.int .u64 u] w fun e w' => e = .returned (.int .i64 (Lib.nDigits u)) ∧ w' = w := Any.internal_strconv_numDigits Tryd.laysM284 u h1 h2 w htab
def Tryd.lays285_ren : Go.Shelf.Ren := ⟨fun | 285 => 89 | n => n, fun | 37 => 22 | 53 => 55 | 3 => 3 | 4 => 4 | 51 => 128 | 9 => 9 | 5 => 5 | 0 => 0 | n => n, fun | n => n⟩
theorem Tryd.lays285 : Go.Proofs.Lays.n285 Tryd.prog Tryd.lays285_ren := {
 mixed := by kernel_rfl
 f285 := Tryd.func89.trans (congrArg some (by kernel_rfl))
 t0 := Tryd.underlying0
 a0 := Tryd.isAgg0
 z0 := Tryd.sizeOf0
 v0 := Tryd.zeroValue0
 t3 := Tryd.underlying3
 a3 := Tryd.isAgg3
 z3 := Tryd.sizeOf3
 v3 := Tryd.zeroValue3
 t4 := Tryd.underlying4
 a4 := Tryd.isAgg4
 z4 := Tryd.sizeOf4
 v4 := Tryd.zeroValue4
 t5 := Tryd.underlying5
 a5 := Tryd.isAgg5
 z5 := Tryd.sizeOf5
 v5 := Tryd.zeroValue5
 t9 := Tryd.underlying9
 a9 := Tryd.isAgg9
 z9 := Tryd.sizeOf9
 v9 := Tryd.zeroValue9
 t37 := Tryd.underlying22
 a37 := Tryd.isAgg22
 z37 := Tryd.sizeOf22
 v37 := Tryd.zeroValue22
 t51 := Tryd.underlying128
 a51 := Tryd.isAgg128
 z51 := Tryd.sizeOf128
 v51 := Tryd.zeroValue128
 t53 := Tryd.underlying55
 a53 := Tryd.isAgg55
 z53 := Tryd.sizeOf55
 v53 := Tryd.zeroValue55 }
open Go.RowKit Go.Sort Go.Lib in
theorem Tryd.internal_strconv_formatBase10 (blk off cap : Nat) (u : Nat) (d : Array UInt8) (w : World) (hH : Holds (fun (b : UInt8) => Value.int .u8 (b.toNat : Int)) w blk off d) (hu : u < 10 ^ d.size) (hu64 : u < 18446744073709551616) (hsz : d.size < 4611686018427387904) :
 Calls Tryd.prog 89 #[.slice (some ⟨blk, off, none⟩) d.size cap, .int .u64 u] w fun e w' =>
  e = .returned (.tuple #[]) ∧ ∃ (n v' : Nat) (dk : Array UInt8), w' = (putRow (fun (b : UInt8) => Value.int .u8 (b.toNat : Int)) w blk off dk).drewN n ∧ FmtInv d.size u 0 v' dk := Any.internal_strconv_formatBase10 Tryd.lays285 blk off cap u d w hH hu hu64 hsz
def Tryd.laysM246_ren : Go.Shelf.Ren := ⟨fun | 246 => 86 | 283 => 87 | 284 => 88 | 285 => 89 | 286 => 90 | 129 => 92 | 317 => 91 | 318 => 93 | 319 => 94 | 320 => 95 | 337 => 96 | 338 => 97 | n => n, fun | 2 => 2 | 3 => 3 | 9 => 9 | 4 => 4 | 171 => 120 | 0 => 0 | 53 => 55 | 37 => 22 | 5 => 5 | 173 => 123 | 212 => 127 | 51 => 128 | 20 => 20 | 213 => 129 | 46 => 108 | 232 => 133 | 233 => 134 | n => n, fun | 17 => 4 | 18 => 5 | 19 => 6 | n => n⟩
theorem Tryd.laysM246 : Go.Proofs.LaysM.n246 Tryd.prog Tryd.laysM246_ren := {
 mixed := by kernel_rfl
 f129 := Tryd.func92.trans (congrArg some (by kernel_rfl))
 f246 := Tryd.func86.trans (congrArg some (by kernel_rfl))
 f283 := Tryd.func87.trans (congrArg some (by kernel_rfl))
 f284 := Tryd.func88.trans (congrArg some (by kernel_rfl))
 f285 := Tryd.func89.trans (congrArg some (by kernel_rfl))
 f286 := Tryd.func90.trans (congrArg some (by kernel_rfl))
 f317 := Tryd.func91.trans (congrArg some (by kernel_rfl))
 f318 := Tryd.func93.trans (congrArg some (by kernel_rfl))
 f319 := Tryd.func94.trans (congrArg some (by kernel_rfl))
 f320 := Tryd.func95.trans (congrArg some (by kernel_rfl))
 f337 := Tryd.func96.trans (congrArg some (by kernel_rfl))
 f338 := Tryd.func97.trans (congrArg some (by kernel_rfl))
 t0 := Tryd.underlying0
 a0 := Tryd.isAgg0
 z0 := Tryd.sizeOf0
 v0 := Tryd.zeroValue0
 t2 := Tryd.underlying2
 a2 := Tryd.isAgg2
 z2 := Tryd.sizeOf2
 v2 := Tryd.zeroValue2
 t3 := Tryd.underlying3
 a3 := Tryd.isAgg3
 z3 := Tryd.sizeOf3
 v3 := Tryd.zeroValue3
 t4 := Tryd.underlying4
 a4 := Tryd.isAgg4
 z4 := Tryd.sizeOf4
 v4 := Tryd.zeroValue4
 t5 := Tryd.underlying5
 a5 := Tryd.isAgg5
 z5 := Tryd.sizeOf5
 v5 := Tryd.zeroValue5
 t9 := Tryd.underlying9
 a9 := Tryd.isAgg9
 z9 := Tryd.sizeOf9
 v9 := Tryd.zeroValue9
 t20 := Tryd.underlying20
 a20 := Tryd.isAgg20
 z20 := Tryd.sizeOf20
 v20 := Tryd.zeroValue20
 t37 := Tryd.underlying22
 a37 := Tryd.isAgg22
 z37 := Tryd.sizeOf22
 v37 := Tryd.zeroValue22
 t46 := Tryd.underlying108
 a46 := Tryd.isAgg108
 z46 := Tryd.sizeOf108
 v46 := Tryd.zeroValue108
 t51 := Tryd.underlying128
 a51 := Tryd.isAgg128
 z51 := Tryd.sizeOf128
 v51 := Tryd.zeroValue128
 t53 := Tryd.underlying55
 a53 := Tryd.isAgg55
 z53 := Tryd.sizeOf55
 v53 := Tryd.zeroValue55
 t171 := Tryd.underlying120
 a171 := Tryd.isAgg120
 z171 := Tryd.sizeOf120
 v171 := Tryd.zeroValue120
 t173 := Tryd.underlying123
 a173 := Tryd.isAgg123
 z173 := Tryd.sizeOf123
 v173 := Tryd.zeroValue123
 t212 := Tryd.underlying127
 a212 := Tryd.isAgg127
 z212 := Tryd.sizeOf127
 v212 := Tryd.zeroValue127
 t213 := Tryd.underlying129
 a213 := Tryd.isAgg129
 z213 := Tryd.sizeOf129
 t232 := Tryd.underlying133
 a232 := Tryd.isAgg133
 z232 := Tryd.sizeOf133
 v232 := Tryd.zeroValue133
 t233 := Tryd.underlying134
 a233 := Tryd.isAgg134
 z233 := Tryd.sizeOf134
 v233 := Tryd.zeroValue134
 g17 := by kernel_rfl
 g18 := by kernel_rfl
 g19 := by kernel_rfl
 i0 := by kernel_rfl
 i2 := by kernel_rfl
 i3 := by kernel_rfl
 i4 := by kernel_rfl
 i5 := by kernel_rfl
 i9 := by kernel_rfl
 i20 := by kernel_rfl
 i37 := by kernel_rfl
 i46 := by kernel_rfl
 i51 := by kernel_rfl
 i53 := by kernel_rfl
 i171 := by kernel_rfl
 i173 := by kernel_rfl
 i212 := by kernel_rfl
 i232 := by kernel_rfl
 i233 := by kernel_rfl
 m17 := by kernel_rfl
 m18 := by kernel_rfl
 m19 := by kernel_rfl }
open Go.RowKit Go.Sort Go.Lib in
theorem Tryd.internal_strconv_FormatInt_10 (n : Int) (h0 : -9223372036854775808 ≤ n) (h1 : n ≤ 9223372036854775807) (w : World) (htab : Lib.TabIs Tryd.prog w "internal/strconv.uint64pow10" .u64 Lib.pow10Tab) :
 Calls Tryd.prog 86 #[.int .i64 n, .int .i64 10] w fun e w' => e = .returned (.string ⟨(Lib.itoa n).toArray⟩) ∧ ∃ k os, w' = grow (w.drewN k) os := Any.internal_strconv_FormatInt_10 Tryd.laysM246 n h0 h1 w htab
def Tryd.lays246_ren : Go.Shelf.Ren := ⟨fun | 246 => 86 | 283 => 87 | 284 => 88 | 285 => 89 | 286 => 90 | 129 => 92 | 317 => 91 | 318 => 93 | 319 => 94 | 320 => 95 | 337 => 96 | 338 => 97 | n => n, fun | 2 => 2 | 3 => 3 | 9 => 9 | 4 => 4 | 171 => 120 | 0 => 0 | 53 => 55 | 37 => 22 | 5 => 5 | 173 => 123 | 212 => 127 | 51 => 128 | 20 => 20 | 213 => 129 | 46 => 108 | 232 => 133 | 233 => 134 | n => n, fun | 17 => 4 | 18 => 5 | 19 => 6 | n => n⟩
theorem Tryd.lays246 : Go.Proofs.Lays.n246 Tryd.prog Tryd.lays246_ren := {
 mixed := by kernel_rfl
 f129 := Tryd.func92.trans (congrArg some (by kernel_rfl))
 f246 := Tryd.func86.trans (congrArg some (by kernel_rfl))
 f283 := Tryd.func87.trans (congrArg some (by kernel_rfl))
 f284 := Tryd.func88.trans (congrArg some (by kernel_rfl))
 f285 := Tryd.func89.trans (congrArg some (by kernel_rfl))
 f286 := Tryd.func90.trans (congrArg some (by kernel_rfl))
 f317 := Tryd.func91.trans (congrArg some (by kernel_rfl))
 f318 := Tryd.func93.trans (congrArg some (by kernel_rfl))
 f319 := Tryd.func94.trans (congrArg some (by kernel_rfl))
 f320 := Tryd.func95.trans (congrArg some (by kernel_rfl))
 f337 := Tryd.func96.trans (congrArg some (by kernel_rfl))
 f338 := Tryd.func97.trans (congrArg some (by kernel_rfl))
 t0 := Tryd.underlying0
 a0 := Tryd.isAgg0
 z0 := Tryd.sizeOf0
 v0 := Tryd.zeroValue0
 t2 := Tryd.underlying2
 a2 := Tryd.isAgg2
 z2 := Tryd.sizeOf2
 v2 := Tryd.zeroValue2
 t3 := Tryd.underlying3
 a3 := Tryd.isAgg3
 z3 := Tryd.sizeOf3
 v3 := Tryd.zeroValue3
 t4 := Tryd.underlying4
 a4 := Tryd.isAgg4
 z4 := Tryd.sizeOf4
 v4 := Tryd.zeroValue4
 t5 := Tryd.underlying5
 a5 := Tryd.isAgg5
 z5 := Tryd.sizeOf5
 v5 := Tryd.zeroValue5
 t9 := Tryd.underlying9
 a9 := Tryd.isAgg9
 z9 := Tryd.sizeOf9
 v9 := Tryd.zeroValue9
 t20 := Tryd.underlying20
 a20 := Tryd.isAgg20
 z20 := Tryd.sizeOf20
 v20 := Tryd.zeroValue20
 t37 := Tryd.underlying22
 a37 := Tryd.isAgg22
 z37 := Tryd.sizeOf22
 v37 := Tryd.zeroValue22
 t46 := Tryd.underlying108
 a46 := Tryd.isAgg108
 z46 := Tryd.sizeOf108
 v46 := Tryd.zeroValue108
 t51 := Tryd.underlying128
 a51 := Tryd.isAgg128
 z51 := Tryd.sizeOf128
 v51 := Tryd.zeroValue128
 t53 := Tryd.underlying55
 a53 := Tryd.isAgg55
 z53 := Tryd.sizeOf55
 v53 := Tryd.zeroValue55
 t171 := Tryd.underlying120
 a171 := Tryd.isAgg120
 z171 := Tryd.sizeOf120
 v171 := Tryd.zeroValue120
 t173 := Tryd.underlying123
 a173 := Tryd.isAgg123
 z173 := Tryd.sizeOf123
 v173 := Tryd.zeroValue123
 t212 := Tryd.underlying127
 a212 := Tryd.isAgg127
 z212 := Tryd.sizeOf127
 v212 := Tryd.zeroValue127
 t213 := Tryd.underlying129
 a213 := Tryd.isAgg129
 z213 := Tryd.sizeOf129
 t232 := Tryd.underlying133
 a232 := Tryd.isAgg133
 z232 := Tryd.sizeOf133
 v232 := Tryd.zeroValue133
 t233 := Tryd.underlying134
 a233 := Tryd.isAgg134
 z233 := Tryd.sizeOf134
 v233 := Tryd.zeroValue134
 g17 := by kernel_rfl
 g18 := by kernel_rfl
 g19 := by kernel_rfl }
open Go.RowKit Go.Sort Go.Lib in
theorem Tryd.internal_strconv_FormatInt_10_small (i : Nat) (hi : i < 100) (w : World) :
 Calls Tryd.prog 86 #[.int .i64 i, .int .i64 10] w fun e w' => e = .returned (.string ⟨(Lib.decDigits i).toArray⟩) ∧ w' = w := Any.internal_strconv_FormatInt_10_small Tryd.lays246 i hi w
def Tryd.laysM243_ren : Go.Shelf.Ren := ⟨fun | 243 => 85 | 246 => 86 | 283 => 87 | 284 => 88 | 285 => 89 | 286 => 90 | 129 => 92 | 317 => 91 | 318 => 93 | 319 => 94 | 320 => 95 | 337 => 96 | 338 => 97 | n => n, fun | 3 => 3 | 9 => 9 | 2 => 2 | 4 => 4 | 171 => 120 | 0 => 0 | 53 => 55 | 37 => 22 | 5 => 5 | 173 => 123 | 212 => 127 | 51 => 128 | 20 => 20 | 213 => 129 | 46 => 108 | 232 => 133 | 233 => 134 | n => n, fun | 17 => 4 | 18 => 5 | 19 => 6 | n => n⟩
theorem Tryd.laysM243 : Go.Proofs.LaysM.n243 Tryd.prog Tryd.laysM243_ren := {
 mixed := by kernel_rfl
 f129 := Tryd.func92.trans (congrArg some (by kernel_rfl))
 f243 := Tryd.func85.trans (congrArg some (by kernel_rfl))
 f246 := Tryd.func86.trans (congrArg some (by kernel_rfl))
 f283 := Tryd.func87.trans (congrArg some (by kernel_rfl))
 f284 := Tryd.func88.trans (congrArg some (by kernel_rfl))
 f285 := Tryd.func89.trans (congrArg some (by kernel_rfl))
 f286 := Tryd.func90.trans (congrArg some (by kernel_rfl))
 f317 := Tryd.func91.trans (congrArg some (by kernel_rfl))
 f318 := Tryd.func93.trans (congrArg some (by kernel_rfl))
 f319 := Tryd.func94.trans (congrArg some (by kernel_rfl))
 f320 := Tryd.func95.trans (congrArg some (by kernel_rfl))
 f337 := Tryd.func96.trans (congrArg some (by kernel_rfl))
 f338 := Tryd.func97.trans (congrArg some (by kernel_rfl))
 t0 := Tryd.underlying0
 a0 := Tryd.isAgg0
 z0 := Tryd.sizeOf0
 v0 := Tryd.zeroValue0
 t2 := Tryd.underlying2
 a2 := Tryd.isAgg2
 z2 := Tryd.sizeOf2
 v2 := Tryd.zeroValue2
 t3 := Tryd.underlying3
 a3 := Tryd.isAgg3
 z3 := Tryd.sizeOf3
 v3 := Tryd.zeroValue3
 t4 := Tryd.underlying4
 a4 := Tryd.isAgg4
 z4 := Tryd.sizeOf4
 v4 := Tryd.zeroValue4
 t5 := Tryd.underlying5
 a5 := Tryd.isAgg5
 z5 := Tryd.sizeOf5
 v5 := Tryd.zeroValue5
 t9 := Tryd.underlying9
 a9 := Tryd.isAgg9
 z9 := Tryd.sizeOf9
 v9 := Tryd.zeroValue9
 t20 := Tryd.underlying20
 a20 := Tryd.isAgg20
 z20 := Tryd.sizeOf20
 v20 := Tryd.zeroValue20
 t37 := Tryd.underlying22
 a37 := Tryd.isAgg22
 z37 := Tryd.sizeOf22
 v37 := Tryd.zeroValue22
 t46 := Tryd.underlying108
 a46 := Tryd.isAgg108
 z46 := Tryd.sizeOf108
 v46 := Tryd.zeroValue108
 t51 := Tryd.underlying128
 a51 := Tryd.isAgg128
 z51 := Tryd.sizeOf128
 v51 := Tryd.zeroValue128
 t53 := Tryd.underlying55
 a53 := Tryd.isAgg55
 z53 := Tryd.sizeOf55
 v53 := Tryd.zeroValue55
 t171 := Tryd.underlying120
 a171 := Tryd.isAgg120
 z171 := Tryd.sizeOf120
 v171 := Tryd.zeroValue120
 t173 := Tryd.underlying123
 a173 := Tryd.isAgg123
 z173 := Tryd.sizeOf123
 v173 := Tryd.zeroValue123
 t212 := Tryd.underlying127
 a212 := Tryd.isAgg127
 z212 := Tryd.sizeOf127
 v212 := Tryd.zeroValue127
 t213 := Tryd.underlying129
 a213 := Tryd.isAgg129
 z213 := Tryd.sizeOf129
 t232 := Tryd.underlying133
 a232 := Tryd.isAgg133
 z232 := Tryd.sizeOf133
 v232 := Tryd.zeroValue133
 t233 := Tryd.underlying134
 a233 := Tryd.isAgg134
 z233 := Tryd.sizeOf134
 v233 := Tryd.zeroValue134
 g17 := by kernel_rfl
 g18 := by kernel_rfl
 g19 := by kernel_rfl
 i0 := by kernel_rfl
 i2 := by kernel_rfl
 i3 := by kernel_rfl
 i4 := by kernel_rfl
 i5 := by kernel_rfl
 i9 := by kernel_rfl
 i20 := by kernel_rfl
 i37 := by kernel_rfl
 i46 := by kernel_rfl
 i51 := by kernel_rfl
 i53 := by kernel_rfl
 i171 := by kernel_rfl
 i173 := by kernel_rfl
 i212 := by kernel_rfl
 i232 := by kernel_rfl
 i233 := by kernel_rfl
 m17 := by kernel_rfl
 m18 := by kernel_rfl
 m19 := by kernel_rfl }
open Go.RowKit Go.Sort Go.Lib in
theorem Tryd.internal_strconv_Itoa (n : Int) (h0 : -9223372036854775808 ≤ n) (h1 : n ≤ 9223372036854775807) (w : World) (htab : Lib.TabIs Tryd.prog w "internal/strconv.uint64pow10" .u64 Lib.pow10Tab) :
 Calls Tryd.prog 85 #[.int .i64 n] w fun e w' => e = .returned (.string ⟨(Lib.itoa n).toArray⟩) ∧ ∃ k os, w' = grow (w.drewN k) os := Any.internal_strconv_Itoa Tryd.laysM243 n h0 h1 w htab
def Tryd.lays243_ren : Go.Shelf.Ren := ⟨fun | 243 => 85 | 246 => 86 | 283 => 87 | 284 => 88 | 285 => 89 | 286 => 90 | 129 => 92 | 317 => 91 | 318 => 93 | 319 => 94 | 320 => 95 | 337 => 96 | 338 => 97 | n => n, fun | 3 => 3 | 9 => 9 | 2 => 2 | 4 => 4 | 171 => 120 | 0 => 0 | 53 => 55 | 37 => 22 | 5 => 5 | 173 => 123 | 212 => 127 | 51 => 128 | 20 => 20 | 213 => 129 | 46 => 108 | 232 => 133 | 233 => 134 | n => n, fun | 17 => 4 | 18 => 5 | 19 => 6 | n => n⟩
theorem Tryd.lays243 : Go.Proofs.Lays.n243 Tryd.prog Tryd.lays243_ren := {
 mixed := by kernel_rfl
 f129 := Tryd.func92.trans (congrArg some (by kernel_rfl))
 f243 := Tryd.func85.trans (congrArg some (by kernel_rfl))
 f246 := Tryd.func86.trans (congrArg some (by kernel_rfl))
 f283 := Tryd.func87.trans (congrArg some (by kernel_rfl))
 f284 := Tryd.func88.trans (congrArg some (by kernel_rfl))
 f285 := Tryd.func89.trans (congrArg some (by kernel_rfl))
 f286 := Tryd.func90.trans (congrArg some (by kernel_rfl))
 f317 := Tryd.func91.trans (congrArg some (by kernel_rfl))
 f318 := Tryd.func93.trans (congrArg some (by kernel_rfl))
 f319 := Tryd.func94.trans (congrArg some (by kernel_rfl))
 f320 := Tryd.func95.trans (congrArg some (by kernel_rfl))
 f337 := Tryd.func96.trans (congrArg some (by kernel_rfl))
 f338 := Tryd.func97.trans (congrArg some (by kernel_rfl))
 t0 := Tryd.underlying0
 a0 := Tryd.isAgg0
 z0 := Tryd.sizeOf0
 v0 := Tryd.zeroValue0
 t2 := Tryd.underlying2
 a2 := Tryd.isAgg2
 z2 := Tryd.sizeOf2
 v2 := Tryd.zeroValue2
 t3 := Tryd.underlying3
 a3 := Tryd.isAgg3
 z3 := Tryd.sizeOf3
 v3 := Tryd.zeroValue3
 t4 := Tryd.underlying4
 a4 := Tryd.isAgg4
 z4 := Tryd.sizeOf4
 v4 := Tryd.zeroValue4
 t5 := Tryd.underlying5
 a5 := Tryd.isAgg5
 z5 := Tryd.sizeOf5
 v5 := Tryd.zeroValue5
 t9 := Tryd.underlying9
 a9 := Tryd.isAgg9
 z9 := Tryd.sizeOf9
 v9 := Tryd.zeroValue9
 t20 := Tryd.underlying20
 a20 := Tryd.isAgg20
 z20 := Tryd.sizeOf20
 v20 := Tryd.zeroValue20
 t37 := Tryd.underlying22
 a37 := Tryd.isAgg22
 z37 := Tryd.sizeOf22
 v37 := Tryd.zeroValue22
 t46 := Tryd.underlying108
 a46 := Tryd.isAgg108
 z46 := Tryd.sizeOf108
 v46 := Tryd.zeroValue108
 t51 := Tryd.underlying128
 a51 := Tryd.isAgg128
 z51 := Tryd.sizeOf128
 v51 := Tryd.zeroValue128
 t53 := Tryd.underlying55
 a53 := Tryd.isAgg55
 z53 := Tryd.sizeOf55
 v53 := Tryd.zeroValue55
 t171 := Tryd.underlying120
 a171 := Tryd.isAgg120
 z171 := Tryd.sizeOf120
 v171 := Tryd.zeroValue120
 t173 := Tryd.underlying123
 a173 := Tryd.isAgg123
 z173 := Tryd.sizeOf123
 v173 := Tryd.zeroValue123
 t212 := Tryd.underlying127
 a212 := Tryd.isAgg127
 z212 := Tryd.sizeOf127
 v212 := Tryd.zeroValue127
 t213 := Tryd.underlying129
 a213 := Tryd.isAgg129
 z213 := Tryd.sizeOf129
 t232 := Tryd.underlying133
 a232 := Tryd.isAgg133
 z232 := Tryd.sizeOf133
 v232 := Tryd.zeroValue133
 t233 := Tryd.underlying134
 a233 := Tryd.isAgg134
 z233 := Tryd.sizeOf134
 v233 := Tryd.zeroValue134
 g17 := by kernel_rfl
 g18 := by kernel_rfl
 g19 := by kernel_rfl }
open Go.RowKit Go.Sort Go.Lib in
theorem Tryd.internal_strconv_Itoa_small (i : Nat) (hi : i < 100) (w : World) :
 Calls Tryd.prog 85 #[.int .i64 i] w fun e w' => e = .returned (.string ⟨(Lib.decDigits i).toArray⟩) ∧ w' = w := Any.internal_strconv_Itoa_small Tryd.lays243 i hi w
def Tryd.laysM171_ren : Go.Shelf.Ren := ⟨fun | 171 => 82 | 243 => 85 | 246 => 86 | 283 => 87 | 284 => 88 | 285 => 89 | 286 => 90 | 129 => 92 | 317 => 91 | 318 => 93 | 319 => 94 | 320 => 95 | 337 => 96 | 338 => 97 | n => n, fun | 3 => 3 | 9 => 9 | 2 => 2 | 4 => 4 | 171 => 120 | 0 => 0 | 53 => 55 | 37 => 22 | 5 => 5 | 173 => 123 | 212 => 127 | 51 => 128 | 20 => 20 | 213 => 129 | 46 => 108 | 232 => 133 | 233 => 134 | n => n, fun | 17 => 4 | 18 => 5 | 19 => 6 | n => n⟩
theorem Tryd.laysM171 : Go.Proofs.LaysM.n171 Tryd.prog Tryd.laysM171_ren := {
 mixed := by kernel_rfl
 f129 := Tryd.func92.trans (congrArg some (by kernel_rfl))
 f171 := Tryd.func82.trans (congrArg some (by kernel_rfl))
 f243 := Tryd.func85.trans (congrArg some (by kernel_rfl))
 f246 := Tryd.func86.trans (congrArg some (by kernel_rfl))
 f283 := Tryd.func87.trans (congrArg some (by kernel_rfl))
 f284 := Tryd.func88.trans (congrArg some (by kernel_rfl))
 f285 := Tryd.func89.trans (congrArg some (by kernel_rfl))
 f286 := Tryd.func90.trans (congrArg some (by kernel_rfl))
 f317 := Tryd.func91.trans (congrArg some (by kernel_rfl))
 f318 := Tryd.func93.trans (congrArg some (by kernel_rfl))
 f319 := Tryd.func94.trans (congrArg some (by kernel_rfl))
 f320 := Tryd.func95.trans (congrArg some (by kernel_rfl))
 f337 := Tryd.func96.trans (congrArg some (by kernel_rfl))
 f338 := Tryd.func97.trans (congrArg some (by kernel_rfl))
 t0 := Tryd.underlying0
 a0 := Tryd.isAgg0
 z0 := Tryd.sizeOf0
 v0 := Tryd.zeroValue0
 t2 := Tryd.underlying2
 a2 := Tryd.isAgg2
 z2 := Tryd.sizeOf2
 v2 := Tryd.zeroValue2
 t3 := Tryd.underlying3
 a3 := Tryd.isAgg3
 z3 := Tryd.sizeOf3
 v3 := Tryd.zeroValue3
 t4 := Tryd.underlying4
 a4 := Tryd.isAgg4
 z4 := Tryd.sizeOf4
 v4 := Tryd.zeroValue4
 t5 := Tryd.underlying5
 a5 := Tryd.isAgg5
 z5 := Tryd.sizeOf5
 v5 := Tryd.zeroValue5
 t9 := Tryd.underlying9
 a9 := Tryd.isAgg9
 z9 := Tryd.sizeOf9
 v9 := Tryd.zeroValue9
 t20 := Tryd.underlying20
 a20 := Tryd.isAgg20
 z20 := Tryd.sizeOf20
 v20 := Tryd.zeroValue20
 t37 := Tryd.underlying22
 a37 := Tryd.isAgg22
 z37 := Tryd.sizeOf22
 v37 := Tryd.zeroValue22
 t46 := Tryd.underlying108
 a46 := Tryd.isAgg108
 z46 := Tryd.sizeOf108
 v46 := Tryd.zeroValue108
 t51 := Tryd.underlying128
 a51 := Tryd.isAgg128
 z51 := Tryd.sizeOf128
 v51 := Tryd.zeroValue128
 t53 := Tryd.underlying55
 a53 := Tryd.isAgg55
 z53 := Tryd.sizeOf55
 v53 := Tryd.zeroValue55
 t171 := Tryd.underlying120
 a171 := Tryd.isAgg120
 z171 := Tryd.sizeOf120
 v171 := Tryd.zeroValue120
 t173 := Tryd.underlying123
 a173 := Tryd.isAgg123
 z173 := Tryd.sizeOf123
 v173 := Tryd.zeroValue123
 t212 := Tryd.underlying127
 a212 := Tryd.isAgg127
 z212 := Tryd.sizeOf127
 v212 := Tryd.zeroValue127
 t213 := Tryd.underlying129
 a213 := Tryd.isAgg129
 z213 := Tryd.sizeOf129
 t232 := Tryd.underlying133
 a232 := Tryd.isAgg133
 z232 := Tryd.sizeOf133
 v232 := Tryd.zeroValue133
 t233 := Tryd.underlying134
 a233 := Tryd.isAgg134
 z233 := Tryd.sizeOf134
 v233 := Tryd.zeroValue134
 g17 := by kernel_rfl
 g18 := by kernel_rfl
 g19 := by kernel_rfl
 i0 := by kernel_rfl
 i2 := by kernel_rfl
 i3 := by kernel_rfl
 i4 := by kernel_rfl
 i5 := by kernel_rfl
 i9 := by kernel_rfl
 i20 := by kernel_rfl
 i37 := by kernel_rfl
 i46 := by kernel_rfl
 i51 := by kernel_rfl
 i53 := by kernel_rfl
 i171 := by kernel_rfl
 i173 := by kernel_rfl
 i212 := by kernel_rfl
 i232 := by kernel_rfl
 i233 := by kernel_rfl
 m17 := by kernel_rfl
 m18 := by kernel_rfl
 m19 := by kernel_rfl }
open Go.RowKit Go.Sort Go.Lib in
theorem Tryd.strconv_Itoa (n : Int) (h0 : -9223372036854775808 ≤ n) (h1 : n ≤ 9223372036854775807) (w : World) (htab : Lib.TabIs Tryd.prog w "internal/strconv.uint64pow10" .u64 Lib.pow10Tab) :
 Calls Tryd.prog 82 #[.int .i64 n] w fun e w' => e = .returned (.string ⟨(Lib.itoa n).toArray⟩) ∧ ∃ k os, w' = grow (w.drewN k) os := Any.strconv_Itoa Tryd.laysM171 n h0 h1 w htab
def Tryd.lays171_ren : Go.Shelf.Ren := ⟨fun | 171 => 82 | 243 => 85 | 246 => 86 | 283 => 87 | 284 => 88 | 285 => 89 | 286 => 90 | 129 => 92 | 317 => 91 | 318 => 93 | 319 => 94 | 320 => 95 | 337 => 96 | 338 => 97 | n => n, fun | 3 => 3 | 9 => 9 | 2 => 2 | 4 => 4 | 171 => 120 | 0 => 0 | 53 => 55 | 37 => 22 | 5 => 5 | 173 => 123 | 212 => 127 | 51 => 128 | 20 => 20 | 213 => 129 | 46 => 108 | 232 => 133 | 233 => 134 | n => n, fun | 17 => 4 | 18 => 5 | 19 => 6 | n => n⟩
theorem Tryd.lays171 : Go.Proofs.Lays.n171 Tryd.prog Tryd.lays171_ren := {
 mixed := by kernel_rfl
 f129 := Tryd.func92.trans (congrArg some (by kernel_rfl))
 f171 := Tryd.func82.trans (congrArg some (by kernel_rfl))
 f243 := Tryd.func85.trans (congrArg some (by kernel_rfl))
 f246 := Tryd.func86.trans (congrArg some (by kernel_rfl))
 f283 := Tryd.func87.trans (congrArg some (by kernel_rfl))
 f284 := Tryd.func88.trans (congrArg some (by kernel_rfl))
 f285 := Tryd.func89.trans (congrArg some (by kernel_rfl))
 f286 := Tryd.func90.trans (congrArg some (by kernel_rfl))
 f317 := Tryd.func91.trans (congrArg some (by kernel_rfl))
 f318 := Tryd.func93.trans (congrArg some (by kernel_rfl))
 f319 := Tryd.func94.trans (congrArg some (by kernel_rfl))
 f320 := Tryd.func95.trans (congrArg some (by kernel_rfl))
 f337 := Tryd.func96.trans (congrArg some (by kernel_rfl))
 f338 := Tryd.func97.trans (congrArg some (by kernel_rfl))
 t0 := Tryd.underlying0
 a0 := Tryd.isAgg0
 z0 := Tryd.sizeOf0
 v0 := Tryd.zeroValue0
 t2 := Tryd.underlying2
 a2 := Tryd.isAgg2
 z2 := Tryd.sizeOf2
 v2 := Tryd.zeroValue2
 t3 := Tryd.underlying3
 a3 := Tryd.isAgg3
 z3 := Tryd.sizeOf3
 v3 := Tryd.zeroValue3
 t4 := Tryd.underlying4
 a4 := Tryd.isAgg4
 z4 := Tryd.sizeOf4
 v4 := Tryd.zeroValue4
 t5 := Tryd.underlying5
 a5 := Tryd.isAgg5
 z5 := Tryd.sizeOf5
 v5 := Tryd.zeroValue5
 t9 := Tryd.underlying9
 a9 := Tryd.isAgg9
 z9 := Tryd.sizeOf9
 v9 := Tryd.zeroValue9
 t20 := Tryd.underlying20
 a20 := Tryd.isAgg20
 z20 := Tryd.sizeOf20
 v20 := Tryd.zeroValue20
 t37 := Tryd.underlying22
 a37 := Tryd.isAgg22
 z37 := Tryd.sizeOf22
 v37 := Tryd.zeroValue22
 t46 := Tryd.underlying108
 a46 := Tryd.isAgg108
 z46 := Tryd.sizeOf108
 v46 := Tryd.zeroValue108
 t51 := Tryd.underlying128
 a51 := Tryd.isAgg128
 z51 := Tryd.sizeOf128
 v51 := Tryd.zeroValue128
 t53 := Tryd.underlying55
 a53 := Tryd.isAgg55
 z53 := Tryd.sizeOf55
 v53 := Tryd.zeroValue55
 t171 := Tryd.underlying120
 a171 := Tryd.isAgg120
 z171 := Tryd.sizeOf120
 v171 := Tryd.zeroValue120
 t173 := Tryd.underlying123
 a173 := Tryd.isAgg123
 z173 := Tryd.sizeOf123
 v173 := Tryd.zeroValue123
 t212 := Tryd.underlying127
 a212 := Tryd.isAgg127
 z212 := Tryd.sizeOf127
 v212 := Tryd.zeroValue127
 t213 := Tryd.underlying129
 a213 := Tryd.isAgg129
 z213 := Tryd.sizeOf129
 t232 := Tryd.underlying133
 a232 := Tryd.isAgg133
 z232 := Tryd.sizeOf133
 v232 := Tryd.zeroValue133
 t233 := Tryd.underlying134
 a233 := Tryd.isAgg134
 z233 := Tryd.sizeOf134
 v233 := Tryd.zeroValue134
 g17 := by kernel_rfl
 g18 := by kernel_rfl
 g19 := by kernel_rfl }
open Go.RowKit Go.Sort Go.Lib in
theorem Tryd.strconv_Itoa_small (i : Nat) (hi : i < 100) (w : World) :
 Calls Tryd.prog 82 #[.int .i64 i] w fun e w' => e = .returned (.string ⟨(Lib.decDigits i).toArray⟩) ∧ w' = w := Any.strconv_Itoa_small Tryd.lays171 i hi w
open Go.RowKit in
theorem Tryd.internal_strconv_Atoi_err (s : ByteArray) (hl0 : 1 ≤ s.size) (hl : s.size ≤ 18) (h : Lib.atoi s.data.toList = none) (w : World) :
 Calls Tryd.prog 64 #[.string s] w fun e w' => e = .returned (.tuple #[.int .i64 0, (.iface 100 (.int .i64 2))]) ∧ (w' = w ∨ ∃ t, w' = Lib.bytesWorld w 5 t) := Any.internal_strconv_Atoi_err Tryd.lays244 s hl0 hl h w
def Tryd.lays247_ren : Go.Shelf.Ren := ⟨fun | 247 => 73 | 287 => 79 | 321 => 83 | 322 => 84 | n => n, fun | 9 => 9 | 3 => 3 | 2 => 2 | 75 => 93 | 4 => 4 | 167 => 100 | 5 => 5 | 53 => 55 | 175 => 106 | 46 => 108 | 37 => 22 | 0 => 0 | 21 => 21 | 80 => 87 | n => n, fun | n => n⟩
theorem Tryd.lays247 : Go.Proofs.Lays.n247 Tryd.prog Tryd.lays247_ren := {
 mixed := by kernel_rfl
 f247 := Tryd.func73.trans (congrArg some (by kernel_rfl))
 f287 := Tryd.func79.trans (congrArg some (by kernel_rfl))
 f321 := Tryd.func83.trans (congrArg some (by kernel_rfl))
 f322 := Tryd.func84.trans (congrArg some (by kernel_rfl))
 t0 := Tryd.underlying0
 a0 := Tryd.isAgg0
 z0 := Tryd.sizeOf0
 v0 := Tryd.zeroValue0
 t2 := Tryd.underlying2
 a2 := Tryd.isAgg2
 z2 := Tryd.sizeOf2
 v2 := Tryd.zeroValue2
 t3 := Tryd.underlying3
 a3 := Tryd.isAgg3
 z3 := Tryd.sizeOf3
 v3 := Tryd.zeroValue3
 t4 := Tryd.underlying4
 a4 := Tryd.isAgg4
 z4 := Tryd.sizeOf4
 v4 := Tryd.zeroValue4
 t5 := Tryd.underlying5
 a5 := Tryd.isAgg5
 z5 := Tryd.sizeOf5
 v5 := Tryd.zeroValue5
 t9 := Tryd.underlying9
 a9 := Tryd.isAgg9
 z9 := Tryd.sizeOf9
 v9 := Tryd.zeroValue9
 t21 := Tryd.underlying21
 a21 := Tryd.isAgg21
 z21 := Tryd.sizeOf21
 v21 := Tryd.zeroValue21
 t37 := Tryd.underlying22
 a37 := Tryd.isAgg22
 z37 := Tryd.sizeOf22
 v37 := Tryd.zeroValue22
 t46 := Tryd.underlying108
 a46 := Tryd.isAgg108
 z46 := Tryd.sizeOf108
 v46 := Tryd.zeroValue108
 t53 := Tryd.underlying55
 a53 := Tryd.isAgg55
 z53 := Tryd.sizeOf55
 v53 := Tryd.zeroValue55
 t75 := Tryd.underlying93
 a75 := Tryd.isAgg93
 z75 := Tryd.sizeOf93
 v75 := Tryd.zeroValue93
 t167 := Tryd.underlying100
 a167 := Tryd.isAgg100
 z167 := Tryd.sizeOf100
 v167 := Tryd.zeroValue100
 t175 := Tryd.underlying106
 a175 := Tryd.isAgg106
 z175 := Tryd.sizeOf106
 v175 := Tryd.zeroValue106 }
open Go.RowKit in
theorem Tryd.internal_strconv_ParseInt_empty (base bits : Int) (w : World) :
 Calls Tryd.prog 73 #[.string ⟨#[]⟩, .int .i64 base, .int .i64 bits] w fun e w' => e = .returned (.tuple #[.int .i64 0, (.iface 100 (.int .i64 2))]) ∧ w' = w := Any.internal_strconv_ParseInt_empty Tryd.lays247 base bits w
open Go.RowKit in
theorem Tryd.internal_strconv_Atoi_empty (w : World) :
 Calls Tryd.prog 64 #[.string ⟨#[]⟩] w fun e w' => e = .returned (.tuple #[.int .i64 0, (.iface 100 (.int .i64 2))]) ∧ w' = w := Any.internal_strconv_Atoi_empty Tryd.lays244 w
open Go.RowKit in
theorem Tryd.internal_strconv_Atoi_fail (s : ByteArray) (hl : s.size ≤ 18) (h : Lib.atoi s.data.toList = none) (w : World) :
 Calls Tryd.prog 64 #[.string s] w fun e w' => e = .returned (.tuple #[.int .i64 0, (.iface 100 (.int .i64 2))]) ∧ (w' = w ∨ ∃ t, w' = Lib.bytesWorld w 5 t) := Any.internal_strconv_Atoi_fail Tryd.lays244 s hl h w
def Tryd.laysM316_ren : Go.Shelf.Ren := ⟨fun | 316 => 80 | n => n, fun | 9 => 9 | 3 => 3 | 4 => 4 | 37 => 22 | 0 => 0 | 127 => 115 | 5 => 5 | n => n, fun | n => n⟩
theorem Tryd.laysM316 : Go.Proofs.LaysM.n316 Tryd.prog Tryd.laysM316_ren := {
 mixed := by kernel_rfl
 f316 := Tryd.func80.trans (congrArg some (by kernel_rfl))
 t0 := Tryd.underlying0
 a0 := Tryd.isAgg0
 z0 := Tryd.sizeOf0
 v0 := Tryd.zeroValue0
 t3 := Tryd.underlying3
 a3 := Tryd.isAgg3
 z3 := Tryd.sizeOf3
 v3 := Tryd.zeroValue3
 t4 := Tryd.underlying4
 a4 := Tryd.isAgg4
 z4 := Tryd.sizeOf4
 v4 := Tryd.zeroValue4
 t9 := Tryd.underlying9
 a9 := Tryd.isAgg9
 z9 := Tryd.sizeOf9
 v9 := Tryd.zeroValue9
 t37 := Tryd.underlying22
 a37 := Tryd.isAgg22
 z37 := Tryd.sizeOf22
 v37 := Tryd.zeroValue22
 t127 := Tryd.underlying115
 a127 := Tryd.isAgg115
 z127 := Tryd.sizeOf115
 v127 := Tryd.zeroValue115
 t5 := Tryd.underlying5
 a5 := Tryd.isAgg5
 z5 := Tryd.sizeOf5
 v5 := Tryd.zeroValue5
 i0 := by kernel_rfl
 i3 := by kernel_rfl
 i4 := by kernel_rfl
 i5 := by kernel_rfl
 i9 := by kernel_rfl
 i37 := by kernel_rfl
 i127 := by kernel_rfl }
open Go.RowKit in
theorem Tryd.stringslite_Clone (s : ByteArray) (w : World) (hlim : s.size ≤ 281474976710656) :
 Calls Tryd.prog 80 #[.string s] w fun e w' => e = .returned (.string s) ∧ Below w.heap.size w w' := Any.stringslite_Clone Tryd.laysM316 s w hlim
def Tryd.laysM279_ren : Go.Shelf.Ren := ⟨fun | 279 => 74 | 316 => 80 | n => n, fun | 9 => 9 | 168 => 103 | 75 => 93 | 210 => 111 | 3 => 3 | 4 => 4 | 37 => 22 | 0 => 0 | 127 => 115 | 80 => 87 | 5 => 5 | n => n, fun | 15 => 2 | n => n⟩
theorem Tryd.laysM279 : Go.Proofs.LaysM.n279 Tryd.prog Tryd.laysM279_ren := {
 mixed := by kernel_rfl
 f279 := Tryd.func74.trans (congrArg some (by kernel_rfl))
 f316 := Tryd.func80.trans (congrArg some (by kernel_rfl))
 t0 := Tryd.underlying0
 a0 := Tryd.isAgg0
 z0 := Tryd.sizeOf0
 v0 := Tryd.zeroValue0
 t3 := Tryd.underlying3
 a3 := Tryd.isAgg3
 z3 := Tryd.sizeOf3
 v3 := Tryd.zeroValue3
 t4 := Tryd.underlying4
 a4 := Tryd.isAgg4
 z4 := Tryd.sizeOf4
 v4 := Tryd.zeroValue4
 t9 := Tryd.underlying9
 a9 := Tryd.isAgg9
 z9 := Tryd.sizeOf9
 v9 := Tryd.zeroValue9
 t37 := Tryd.underlying22
 a37 := Tryd.isAgg22
 z37 := Tryd.sizeOf22
 v37 := Tryd.zeroValue22
 t75 := Tryd.underlying93
 a75 := Tryd.isAgg93
 z75 := Tryd.sizeOf93
 v75 := Tryd.zeroValue93
 t127 := Tryd.underlying115
 a127 := Tryd.isAgg115
 z127 := Tryd.sizeOf115
 v127 := Tryd.zeroValue115
 t168 := Tryd.underlying103
 a168 := Tryd.isAgg103
 z168 := Tryd.sizeOf103
 v168 := Tryd.zeroValue103
 t210 := Tryd.underlying111
 a210 := Tryd.isAgg111
 z210 := Tryd.sizeOf111
 v210 := Tryd.zeroValue111
 g15 := by kernel_rfl
 t5 := Tryd.underlying5
 a5 := Tryd.isAgg5
 z5 := Tryd.sizeOf5
 v5 := Tryd.zeroValue5
 t80 := Tryd.underlying87
 a80 := Tryd.isAgg87
 z80 := Tryd.sizeOf87
 v80 := Tryd.zeroValue87
 i0 := by kernel_rfl
 i3 := by kernel_rfl
 i4 := by kernel_rfl
 i5 := by kernel_rfl
 i9 := by kernel_rfl
 i37 := by kernel_rfl
 i75 := by kernel_rfl
 i80 := by kernel_rfl
 i127 := by kernel_rfl
 i168 := by kernel_rfl
 i210 := by kernel_rfl
 m15 := by kernel_rfl }
open Go.RowKit in
theorem Tryd.strconv_syntaxError (fn s : ByteArray) (ev : Value) (w : World) (hlim : s.size ≤ 281474976710656) (hv : w.cell? ⟨2, 0, none⟩ = some ev) (hev : ev = .nilIface ∨ ∃ te pe, ev = .iface te pe) :
 Calls Tryd.prog 74 #[.string fn, .string s] w fun e w' => ∃ N, e = .returned (.pointer (some ⟨N, 0, none⟩)) ∧ w.heap.size ≤ N ∧ w'.heap[N]? = some (.cells #[.string fn, .string s, ev] 111 (0, 0)) ∧ Below w.heap.size w w' := Any.strconv_syntaxError Tryd.laysM279 fn s ev w hlim hv hev
def Tryd.laysC245_ren : Go.Shelf.Ren := ⟨fun | 245 => 65 | 279 => 74 | 280 => 75 | 281 => 76 | 282 => 77 | 316 => 80 | 171 => 82 | 205 => 81 | 243 => 85 | 246 => 86 | 283 => 87 | 284 => 88 | 285 => 89 | 286 => 90 | 129 => 92 | 317 => 91 | 318 => 93 | 319 => 94 | 320 => 95 | 337 => 96 | 338 => 97 | n => n, fun | 9 => 9 | 3 => 3 | 75 => 93 | 167 => 100 | 4 => 4 | 168 => 103 | 210 => 111 | 37 => 22 | 0 => 0 | 127 => 115 | 145 => 118 | 143 => 116 | 2 => 2 | 171 => 120 | 53 => 55 | 5 => 5 | 173 => 123 | 212 => 127 | 51 => 128 | 20 => 20 | 213 => 129 | 46 => 108 | 232 => 133 | 233 => 134 | 80 => 87 | n => n, fun | 15 => 2 | 16 => 3 | 17 => 4 | 18 => 5 | 19 => 6 | n => n⟩
theorem Tryd.laysC245 : Go.Proofs.LaysC.n245 Tryd.prog Tryd.laysC245_ren := {
 mixed := by kernel_rfl
 f129 := Tryd.func92.trans (congrArg some (by kernel_rfl))
 f171 := Tryd.func82.trans (congrArg some (by kernel_rfl))
 f205 := Tryd.func81.trans (congrArg some (by kernel_rfl))
 f243 := Tryd.func85.trans (congrArg some (by kernel_rfl))
 f245 := Tryd.func65.trans (congrArg some (by kernel_rfl))
 f246 := Tryd.func86.trans (congrArg some (by kernel_rfl))
 f279 := Tryd.func74.trans (congrArg some (by kernel_rfl))
 f280 := Tryd.func75.trans (congrArg some (by kernel_rfl))
 f281 := Tryd.func76.trans (congrArg some (by kernel_rfl))
 f282 := Tryd.func77.trans (congrArg some (by kernel_rfl))
 f283 := Tryd.func87.trans (congrArg some (by kernel_rfl))
 f284 := Tryd.func88.trans (congrArg some (by kernel_rfl))
 f285 := Tryd.func89.trans (congrArg some (by kernel_rfl))
 f286 := Tryd.func90.trans (congrArg some (by kernel_rfl))
 f316 := Tryd.func80.trans (congrArg some (by kernel_rfl))
 f317 := Tryd.func91.trans (congrArg some (by kernel_rfl))
 f318 := Tryd.func93.trans (congrArg some (by kernel_rfl))
 f319 := Tryd.func94.trans (congrArg some (by kernel_rfl))
 f320 := Tryd.func95.trans (congrArg some (by kernel_rfl))
 f337 := Tryd.func96.trans (congrArg some (by kernel_rfl))
 f338 := Tryd.func97.trans (congrArg some (by kernel_rfl))
 t0 := Tryd.underlying0
 a0 := Tryd.isAgg0
 z0 := Tryd.sizeOf0
 v0 := Tryd.zeroValue0
 t2 := Tryd.underlying2
 a2 := Tryd.isAgg2
 z2 := Tryd.sizeOf2
 v2 := Tryd.zeroValue2
 t3 := Tryd.underlying3
 a3 := Tryd.isAgg3
 z3 := Tryd.sizeOf3
 v3 := Tryd.zeroValue3
 t4 := Tryd.underlying4
 a4 := Tryd.isAgg4
 z4 := Tryd.sizeOf4
 v4 := Tryd.zeroValue4
 t5 := Tryd.underlying5
 a5 := Tryd.isAgg5
 z5 := Tryd.sizeOf5
 v5 := Tryd.zeroValue5
 t9 := Tryd.underlying9
 a9 := Tryd.isAgg9
 z9 := Tryd.sizeOf9
 v9 := Tryd.zeroValue9
 t20 := Tryd.underlying20
 a20 := Tryd.isAgg20
 z20 := Tryd.sizeOf20
 v20 := Tryd.zeroValue20
 t37 := Tryd.underlying22
 a37 := Tryd.isAgg22
 z37 := Tryd.sizeOf22
 v37 := Tryd.zeroValue22
 t46 := Tryd.underlying108
 a46 := Tryd.isAgg108
 z46 := Tryd.sizeOf108
 v46 := Tryd.zeroValue108
 t51 := Tryd.underlying128
 a51 := Tryd.isAgg128
 z51 := Tryd.sizeOf128
 v51 := Tryd.zeroValue128
 t53 := Tryd.underlying55
 a53 := Tryd.isAgg55
 z53 := Tryd.sizeOf55
 v53 := Tryd.zeroValue55
 t75 := Tryd.underlying93
 a75 := Tryd.isAgg93
 z75 := Tryd.sizeOf93
 v75 := Tryd.zeroValue93
 t127 := Tryd.underlying115
 a127 := Tryd.isAgg115
 z127 := Tryd.sizeOf115
 v127 := Tryd.zeroValue115
 t143 := Tryd.underlying116
 a143 := Tryd.isAgg116
 z143 := Tryd.sizeOf116
 v143 := Tryd.zeroValue116
 t145 := Tryd.underlying118
 a145 := Tryd.isAgg118
 z145 := Tryd.sizeOf118
 v145 := Tryd.zeroValue118
 t167 := Tryd.underlying100
 a167 := Tryd.isAgg100
 z167 := Tryd.sizeOf100
 v167 := Tryd.zeroValue100
 t168 := Tryd.underlying103
 a168 := Tryd.isAgg103
 z168 := Tryd.sizeOf103
 v168 := Tryd.zeroValue103
 t171 := Tryd.underlying120
 a171 := Tryd.isAgg120
 z171 := Tryd.sizeOf120
 v171 := Tryd.zeroValue120
 t173 := Tryd.underlying123
 a173 := Tryd.isAgg123
 z173 := Tryd.sizeOf123
 v173 := Tryd.zeroValue123
 t210 := Tryd.underlying111
 a210 := Tryd.isAgg111
 z210 := Tryd.sizeOf111
 v210 := Tryd.zeroValue111
 t212 := Tryd.underlying127
 a212 := Tryd.isAgg127
 z212 := Tryd.sizeOf127
 v212 := Tryd.zeroValue127
 t213 := Tryd.underlying129
 a213 := Tryd.isAgg129
 z213 := Tryd.sizeOf129
 t232 := Tryd.underlying133
 a232 := Tryd.isAgg133
 z232 := Tryd.sizeOf133
 v232 := Tryd.zeroValue133
 t233 := Tryd.underlying134
 a233 := Tryd.isAgg134
 z233 := Tryd.sizeOf134
 v233 := Tryd.zeroValue134
 g15 := by kernel_rfl
 g16 := by kernel_rfl
 g17 := by kernel_rfl
 g18 := by kernel_rfl
 g19 := by kernel_rfl
 t80 := Tryd.underlying87
 a80 := Tryd.isAgg87
 z80 := Tryd.sizeOf87
 v80 := Tryd.zeroValue87
 i0 := by kernel_rfl
 i2 := by kernel_rfl
 i3 := by kernel_rfl
 i4 := by kernel_rfl
 i5 := by kernel_rfl
 i9 := by kernel_rfl
 i20 := by kernel_rfl
 i37 := by kernel_rfl
 i46 := by kernel_rfl
 i51 := by kernel_rfl
 i53 := by kernel_rfl
 i75 := by kernel_rfl
 i80 := by kernel_rfl
 i127 := by kernel_rfl
 i143 := by kernel_rfl
 i145 := by kernel_rfl
 i167 := by kernel_rfl
 i168 := by kernel_rfl
 i171 := by kernel_rfl
 i173 := by kernel_rfl
 i210 := by kernel_rfl
 i212 := by kernel_rfl
 i232 := by kernel_rfl
 i233 := by kernel_rfl
 m15 := by kernel_rfl
 m16 := by kernel_rfl
 m17 := by kernel_rfl
 m18 := by kernel_rfl
 m19 := by kernel_rfl
 c0 := by kernel_rfl
 c2 := by kernel_rfl
 c3 := by kernel_rfl
 c4 := by kernel_rfl
 c5 := by kernel_rfl
 c9 := by kernel_rfl
 c20 := by kernel_rfl
 c37 := by kernel_rfl
 c46 := by kernel_rfl
 c51 := by kernel_rfl
 c53 := by kernel_rfl
 c75 := by kernel_rfl
 c80 := by kernel_rfl
 c127 := by kernel_rfl
 c143 := by kernel_rfl
 c145 := by kernel_rfl
 c167 := by kernel_rfl
 c168 := by kernel_rfl
 c171 := by kernel_rfl
 c173 := by kernel_rfl
 c210 := by kernel_rfl
 c212 := by kernel_rfl
 c213 := by kernel_rfl
 c232 := by kernel_rfl
 c233 := by kernel_rfl }
open Go.RowKit in
theorem Tryd.strconv_toError_syntax (fn s : ByteArray) (base bits : Int) (ev : Value) (w : World) (hlim : s.size ≤ 281474976710656) (hv : w.cell? ⟨2, 0, none⟩ = some ev) (hev : ev = .nilIface ∨ ∃ te pe, ev = .iface te pe) :
 Calls Tryd.prog 65 #[.string fn, .string s, .int .i64 base, .int .i64 bits, .iface 100 (.int .i64 2)] w fun e w' => ∃ N, e = .returned (.iface 103 (.pointer (some ⟨N, 0, none⟩))) ∧ w.heap.size ≤ N ∧ w'.heap[N]? = some (.cells #[.string fn, .string s, ev] 111 (0, 0)) ∧ Below w.heap.size w w' := Any.strconv_toError_syntax Tryd.laysC245 fn s base bits ev w hlim hv hev
def Tryd.lays321_ren : Go.Shelf.Ren := ⟨fun | 321 => 83 | n => n, fun | 5 => 5 | n => n, fun | n => n⟩
theorem Tryd.lays321 : Go.Proofs.Lays.n321 Tryd.prog Tryd.lays321_ren := {
 mixed := by kernel_rfl
 f321 := Tryd.func83.trans (congrArg some (by kernel_rfl))
 t5 := Tryd.underlying5
 a5 := Tryd.isAgg5
 z5 := Tryd.sizeOf5
 v5 := Tryd.zeroValue5 }
open Go.RowKit in
theorem Tryd.internal_strconv_lower (c : Int) (w : World) :
 Calls Tryd.prog 83 #[.int .u8 c] w fun e w' => e = .returned (.int .u8 (bits .or .u8 c 32)) ∧ w' = w := Any.internal_strconv_lower Tryd.lays321 c w
def Tryd.lays287_ren : Go.Shelf.Ren := ⟨fun | 287 => 79 | 321 => 83 | 322 => 84 | n => n, fun | 9 => 9 | 3 => 3 | 53 => 55 | 75 => 93 | 4 => 4 | 167 => 100 | 5 => 5 | 46 => 108 | 37 => 22 | 0 => 0 | 21 => 21 | 80 => 87 | n => n, fun | n => n⟩
theorem Tryd.lays287 : Go.Proofs.Lays.n287 Tryd.prog Tryd.lays287_ren := {
 mixed := by kernel_rfl
 f287 := Tryd.func79.trans (congrArg some (by kernel_rfl))
 f321 := Tryd.func83.trans (congrArg some (by kernel_rfl))
 f322 := Tryd.func84.trans (congrArg some (by kernel_rfl))
 t0 := Tryd.underlying0
 a0 := Tryd.isAgg0
 z0 := Tryd.sizeOf0
 v0 := Tryd.zeroValue0
 t3 := Tryd.underlying3
 a3 := Tryd.isAgg3
 z3 := Tryd.sizeOf3
 v3 := Tryd.zeroValue3
 t4 := Tryd.underlying4
 a4 := Tryd.isAgg4
 z4 := Tryd.sizeOf4
 v4 := Tryd.zeroValue4
 t5 := Tryd.underlying5
 a5 := Tryd.isAgg5
 z5 := Tryd.sizeOf5
 v5 := Tryd.zeroValue5
 t9 := Tryd.underlying9
 a9 := Tryd.isAgg9
 z9 := Tryd.sizeOf9
 v9 := Tryd.zeroValue9
 t21 := Tryd.underlying21
 a21 := Tryd.isAgg21
 z21 := Tryd.sizeOf21
 v21 := Tryd.zeroValue21
 t37 := Tryd.underlying22
 a37 := Tryd.isAgg22
 z37 := Tryd.sizeOf22
 v37 := Tryd.zeroValue22
 t46 := Tryd.underlying108
 a46 := Tryd.isAgg108
 z46 := Tryd.sizeOf108
 v46 := Tryd.zeroValue108
 t53 := Tryd.underlying55
 a53 := Tryd.isAgg55
 z53 := Tryd.sizeOf55
 v53 := Tryd.zeroValue55
 t75 := Tryd.underlying93
 a75 := Tryd.isAgg93
 z75 := Tryd.sizeOf93
 v75 := Tryd.zeroValue93
 t167 := Tryd.underlying100
 a167 := Tryd.isAgg100
 z167 := Tryd.sizeOf100
 v167 := Tryd.zeroValue100 }
open Go.RowKit in
theorem Tryd.internal_strconv_ParseUint_10 (t : ByteArray) (hne : t.size ≠ 0) (hmax : t.size ≤ 9223372036854775806) (w : World) :
 Calls Tryd.prog 79 #[.string t, .int .i64 10, .int .i64 0] w fun e w' => e = .returned (Lib.uintTuple 100 (Lib.parseUint10 0 t.data.toList)) ∧ w' = Lib.bytesWorld w 5 t := Any.internal_strconv_ParseUint_10 Tryd.lays287 t hne hmax w
open Go.RowKit in
theorem Tryd.internal_strconv_ParseUint_10_empty (w : World) :
 Calls Tryd.prog 79 #[.string ⟨#[]⟩, .int .i64 10, .int .i64 0] w fun e w' => e = .returned (Lib.uintTuple 100 .syntax) ∧ w' = w := Any.internal_strconv_ParseUint_10_empty Tryd.lays287 w
open Go.RowKit in
theorem Tryd.internal_strconv_ParseUint_10_any (t : ByteArray) (hmax : t.size ≤ 9223372036854775806) (w : World) :
 Calls Tryd.prog 79 #[.string t, .int .i64 10, .int .i64 0] w fun e w' => e = .returned (Lib.uintTuple 100 (Lib.parseMag t.data.toList)) ∧ (w' = w ∨ w' = Lib.bytesWorld w 5 t) := Any.internal_strconv_ParseUint_10_any Tryd.lays287 t hmax w
def Tryd.laysC247_ren : Go.Shelf.Ren := ⟨fun | 247 => 73 | 287 => 79 | 321 => 83 | 322 => 84 | n => n, fun | 9 => 9 | 3 => 3 | 2 => 2 | 75 => 93 | 4 => 4 | 167 => 100 | 5 => 5 | 53 => 55 | 175 => 106 | 46 => 108 | 37 => 22 | 0 => 0 | 21 => 21 | 80 => 87 | n => n, fun | n => n⟩
theorem Tryd.laysC247 : Go.Proofs.LaysC.n247 Tryd.prog Tryd.laysC247_ren := {
 mixed := by kernel_rfl
 f247 := Tryd.func73.trans (congrArg some (by kernel_rfl))
 f287 := Tryd.func79.trans (congrArg some (by kernel_rfl))
 f321 := Tryd.func83.trans (congrArg some (by kernel_rfl))
 f322 := Tryd.func84.trans (congrArg some (by kernel_rfl))
 t0 := Tryd.underlying0
 a0 := Tryd.isAgg0
 z0 := Tryd.sizeOf0
 v0 := Tryd.zeroValue0
 t2 := Tryd.underlying2
 a2 := Tryd.isAgg2
 z2 := Tryd.sizeOf2
 v2 := Tryd.zeroValue2
 t3 := Tryd.underlying3
 a3 := Tryd.isAgg3
 z3 := Tryd.sizeOf3
 v3 := Tryd.zeroValue3
 t4 := Tryd.underlying4
 a4 := Tryd.isAgg4
 z4 := Tryd.sizeOf4
 v4 := Tryd.zeroValue4
 t5 := Tryd.underlying5
 a5 := Tryd.isAgg5
 z5 := Tryd.sizeOf5
 v5 := Tryd.zeroValue5
 t9 := Tryd.underlying9
 a9 := Tryd.isAgg9
 z9 := Tryd.sizeOf9
 v9 := Tryd.zeroValue9
 t21 := Tryd.underlying21
 a21 := Tryd.isAgg21
 z21 := Tryd.sizeOf21
 v21 := Tryd.zeroValue21
 t37 := Tryd.underlying22
 a37 := Tryd.isAgg22
 z37 := Tryd.sizeOf22
 v37 := Tryd.zeroValue22
 t46 := Tryd.underlying108
 a46 := Tryd.isAgg108
 z46 := Tryd.sizeOf108
 v46 := Tryd.zeroValue108
 t53 := Tryd.underlying55
 a53 := Tryd.isAgg55
 z53 := Tryd.sizeOf55
 v53 := Tryd.zeroValue55
 t75 := Tryd.underlying93
 a75 := Tryd.isAgg93
 z75 := Tryd.sizeOf93
 v75 := Tryd.zeroValue93
 t167 := Tryd.underlying100
 a167 := Tryd.isAgg100
 z167 := Tryd.sizeOf100
 v167 := Tryd.zeroValue100
 t175 := Tryd.underlying106
 a175 := Tryd.isAgg106
 z175 := Tryd.sizeOf106
 v175 := Tryd.zeroValue106
 t80 := Tryd.underlying87
 a80 := Tryd.isAgg87
 z80 := Tryd.sizeOf87
 v80 := Tryd.zeroValue87
 i0 := by kernel_rfl
 i2 := by kernel_rfl
 i3 := by kernel_rfl
 i4 := by kernel_rfl
 i5 := by kernel_rfl
 i9 := by kernel_rfl
 i21 := by kernel_rfl
 i37 := by kernel_rfl
 i46 := by kernel_rfl
 i53 := by kernel_rfl
 i75 := by kernel_rfl
 i80 := by kernel_rfl
 i167 := by kernel_rfl
 i175 := by kernel_rfl
 c0 := by kernel_rfl
 c2 := by kernel_rfl
 c3 := by kernel_rfl
 c4 := by kernel_rfl
 c5 := by kernel_rfl
 c9 := by kernel_rfl
 c21 := by kernel_rfl
 c37 := by kernel_rfl
 c46 := by kernel_rfl
 c53 := by kernel_rfl
 c75 := by kernel_rfl
 c80 := by kernel_rfl
 c167 := by kernel_rfl
 c175 := by kernel_rfl }
open Go.RowKit in
theorem Tryd.internal_strconv_ParseInt_10 (s : ByteArray) (hne : s.size ≠ 0) (hmax : s.size ≤ 9223372036854775806) (w : World) :
 Calls Tryd.prog 73 #[.string s, .int .i64 10, .int .i64 0] w fun e w' => e = .returned (Lib.intTuple 100 (Lib.atoiSat s.data.toList) (Lib.atoiAll s.data.toList)) ∧ (w' = w ∨ ∃ t, w' = Lib.bytesWorld w 5 t) := Any.internal_strconv_ParseInt_10 Tryd.laysC247 s hne hmax w
def Tryd.laysC244_ren : Go.Shelf.Ren := ⟨fun | 244 => 64 | 247 => 73 | 287 => 79 | 321 => 83 | 322 => 84 | n => n, fun | 9 => 9 | 3 => 3 | 75 => 93 | 4 => 4 | 5 => 5 | 167 => 100 | 37 => 22 | 0 => 0 | 85 => 101 | 2 => 2 | 53 => 55 | 175 => 106 | 46 => 108 | 21 => 21 | 80 => 87 | n => n, fun | n => n⟩
theorem Tryd.laysC244 : Go.Proofs.LaysC.n244 Tryd.prog Tryd.laysC244_ren := {
 mixed := by kernel_rfl
 f244 := Tryd.func64.trans (congrArg some (by kernel_rfl))
 f247 := Tryd.func73.trans (congrArg some (by kernel_rfl))
 f287 := Tryd.func79.trans (congrArg some (by kernel_rfl))
 f321 := Tryd.func83.trans (congrArg some (by kernel_rfl))
 f322 := Tryd.func84.trans (congrArg some (by kernel_rfl))
 t0 := Tryd.underlying0
 a0 := Tryd.isAgg0
 z0 := Tryd.sizeOf0
 v0 := Tryd.zeroValue0
 t2 := Tryd.underlying2
 a2 := Tryd.isAgg2
 z2 := Tryd.sizeOf2
 v2 := Tryd.zeroValue2
 t3 := Tryd.underlying3
 a3 := Tryd.isAgg3
 z3 := Tryd.sizeOf3
 v3 := Tryd.zeroValue3
 t4 := Tryd.underlying4
 a4 := Tryd.isAgg4
 z4 := Tryd.sizeOf4
 v4 := Tryd.zeroValue4
 t5 := Tryd.underlying5
 a5 := Tryd.isAgg5
 z5 := Tryd.sizeOf5
 v5 := Tryd.zeroValue5
 t9 := Tryd.underlying9
 a9 := Tryd.isAgg9
 z9 := Tryd.sizeOf9
 v9 := Tryd.zeroValue9
 t21 := Tryd.underlying21
 a21 := Tryd.isAgg21
 z21 := Tryd.sizeOf21
 v21 := Tryd.zeroValue21
 t37 := Tryd.underlying22
 a37 := Tryd.isAgg22
 z37 := Tryd.sizeOf22
 v37 := Tryd.zeroValue22
 t46 := Tryd.underlying108
 a46 := Tryd.isAgg108
 z46 := Tryd.sizeOf108
 v46 := Tryd.zeroValue108
 t53 := Tryd.underlying55
 a53 := Tryd.isAgg55
 z53 := Tryd.sizeOf55
 v53 := Tryd.zeroValue55
 t75 := Tryd.underlying93
 a75 := Tryd.isAgg93
 z75 := Tryd.sizeOf93
 v75 := Tryd.zeroValue93
 t85 := Tryd.underlying101
 a85 := Tryd.isAgg101
 z85 := Tryd.sizeOf101
 v85 := Tryd.zeroValue101
 t167 := Tryd.underlying100
 a167 := Tryd.isAgg100
 z167 := Tryd.sizeOf100
 v167 := Tryd.zeroValue100
 t175 := Tryd.underlying106
 a175 := Tryd.isAgg106
 z175 := Tryd.sizeOf106
 v175 := Tryd.zeroValue106
 t80 := Tryd.underlying87
 a80 := Tryd.isAgg87
 z80 := Tryd.sizeOf87
 v80 := Tryd.zeroValue87
 i0 := by kernel_rfl
 i2 := by kernel_rfl
 i3 := by kernel_rfl
 i4 := by kernel_rfl
 i5 := by kernel_rfl
 i9 := by kernel_rfl
 i21 := by kernel_rfl
 i37 := by kernel_rfl
 i46 := by kernel_rfl
 i53 := by kernel_rfl
 i75 := by kernel_rfl
 i80 := by kernel_rfl
 i85 := by kernel_rfl
 i167 := by kernel_rfl
 i175 := by kernel_rfl
 c0 := by kernel_rfl
 c2 := by kernel_rfl
 c3 := by kernel_rfl
 c4 := by kernel_rfl
 c5 := by kernel_rfl
 c9 := by kernel_rfl
 c21 := by kernel_rfl
 c37 := by kernel_rfl
 c46 := by kernel_rfl
 c53 := by kernel_rfl
 c75 := by kernel_rfl
 c80 := by kernel_rfl
 c85 := by kernel_rfl
 c167 := by kernel_rfl
 c175 := by kernel_rfl }
open Go.RowKit in
theorem Tryd.internal_strconv_Atoi_long (s : ByteArray) (h19 : 19 ≤ s.size) (hmax : s.size ≤ 9223372036854775806) (w : World) :
 Calls Tryd.prog 64 #[.string s] w fun e w' => e = .returned (Lib.intTuple 100 (Lib.atoiSat s.data.toList) (Lib.atoiAll s.data.toList)) ∧ (w' = w ∨ ∃ t, w' = Lib.bytesWorld w 5 t) := Any.internal_strconv_Atoi_long Tryd.laysC244 s h19 hmax w
open Go.RowKit in
theorem Tryd.internal_strconv_Atoi_all (s : ByteArray) (hmax : s.size ≤ 9223372036854775806) (w : World) :
 Calls Tryd.prog 64 #[.string s] w fun e w' => e = .returned (Lib.intTuple 100 (Lib.atoiSat s.data.toList) (Lib.atoiAll s.data.toList)) ∧ (w' = w ∨ ∃ t, w' = Lib.bytesWorld w 5 t) := Any.internal_strconv_Atoi_all Tryd.laysC244 s hmax w
def Tryd.laysM280_ren : Go.Shelf.Ren := ⟨fun | 280 => 75 | 316 => 80 | n => n, fun | 9 => 9 | 168 => 103 | 75 => 93 | 210 => 111 | 3 => 3 | 4 => 4 | 37 => 22 | 0 => 0 | 127 => 115 | 80 => 87 | 5 => 5 | n => n, fun | 16 => 3 | n => n⟩
theorem Tryd.laysM280 : Go.Proofs.LaysM.n280 Tryd.prog Tryd.laysM280_ren := {
 mixed := by kernel_rfl
 f280 := Tryd.func75.trans (congrArg some (by kernel_rfl))
 f316 := Tryd.func80.trans (congrArg some (by kernel_rfl))
 t0 := Tryd.underlying0
 a0 := Tryd.isAgg0
 z0 := Tryd.sizeOf0
 v0 := Tryd.zeroValue0
 t3 := Tryd.underlying3
 a3 := Tryd.isAgg3
 z3 := Tryd.sizeOf3
 v3 := Tryd.zeroValue3
 t4 := Tryd.underlying4
 a4 := Tryd.isAgg4
 z4 := Tryd.sizeOf4
 v4 := Tryd.zeroValue4
 t9 := Tryd.underlying9
 a9 := Tryd.isAgg9
 z9 := Tryd.sizeOf9
 v9 := Tryd.zeroValue9
 t37 := Tryd.underlying22
 a37 := Tryd.isAgg22
 z37 := Tryd.sizeOf22
 v37 := Tryd.zeroValue22
 t75 := Tryd.underlying93
 a75 := Tryd.isAgg93
 z75 := Tryd.sizeOf93
 v75 := Tryd.zeroValue93
 t127 := Tryd.underlying115
 a127 := Tryd.isAgg115
 z127 := Tryd.sizeOf115
 v127 := Tryd.zeroValue115
 t168 := Tryd.underlying103
 a168 := Tryd.isAgg103
 z168 := Tryd.sizeOf103
 v168 := Tryd.zeroValue103
 t210 := Tryd.underlying111
 a210 := Tryd.isAgg111
 z210 := Tryd.sizeOf111
 v210 := Tryd.zeroValue111
 g16 := by kernel_rfl
 t5 := Tryd.underlying5
 a5 := Tryd.isAgg5
 z5 := Tryd.sizeOf5
 v5 := Tryd.zeroValue5
 t80 := Tryd.underlying87
 a80 := Tryd.isAgg87
 z80 := Tryd.sizeOf87
 v80 := Tryd.zeroValue87
 i0 := by kernel_rfl
 i3 := by kernel_rfl
 i4 := by kernel_rfl
 i5 := by kernel_rfl
 i9 := by kernel_rfl
 i37 := by kernel_rfl
 i75 := by kernel_rfl
 i80 := by kernel_rfl
 i127 := by kernel_rfl
 i168 := by kernel_rfl
 i210 := by kernel_rfl
 m16 := by kernel_rfl }
open Go.RowKit in
theorem Tryd.strconv_rangeError (fn s : ByteArray) (ev : Value) (w : World) (hlim : s.size ≤ 281474976710656) (hv : w.cell? ⟨3, 0, none⟩ = some ev) (hev : ev = .nilIface ∨ ∃ te pe, ev = .iface te pe) :
 Calls Tryd.prog 75 #[.string fn, .string s] w fun e w' => ∃ N, e = .returned (.pointer (some ⟨N, 0, none⟩)) ∧ w.heap.size ≤ N ∧ w'.heap[N]? = some (.cells #[.string fn, .string s, ev] 111 (0, 0)) ∧ Below w.heap.size w w' := Any.strconv_rangeError Tryd.laysM280 fn s ev w hlim hv hev
open Go.RowKit in
theorem Tryd.strconv_toError_range (fn s : ByteArray) (base bits : Int) (ev : Value) (w : World) (hlim : s.size ≤ 281474976710656) (hv : w.cell? ⟨3, 0, none⟩ = some ev) (hev : ev = .nilIface ∨ ∃ te pe, ev = .iface te pe) :
 Calls Tryd.prog 65 #[.string fn, .string s, .int .i64 base, .int .i64 bits, .iface 100 (.int .i64 1)] w fun e w' => ∃ N, e = .returned (.iface 103 (.pointer (some ⟨N, 0, none⟩))) ∧ w.heap.size ≤ N ∧ w'.heap[N]? = some (.cells #[.string fn, .string s, ev] 111 (0, 0)) ∧ Below w.heap.size w w' := Any.strconv_toError_range Tryd.laysC245 fn s base bits ev w hlim hv hev
def Tryd.laysC172_ren : Go.Shelf.Ren := ⟨fun | 172 => 57 | 244 => 64 | 245 => 65 | 247 => 73 | 279 => 74 | 280 => 75 | 281 => 76 | 282 => 77 | 287 => 79 | 316 => 80 | 171 => 82 | 205 => 81 | 321 => 83 | 322 => 84 | 243 => 85 | 246 => 86 | 283 => 87 | 284 => 88 | 285 => 89 | 286 => 90 | 129 => 92 | 317 => 91 | 318 => 93 | 319 => 94 | 320 => 95 | 337 => 96 | 338 => 97 | n => n, fun | 9 => 9 | 3 => 3 | 75 => 93 | 76 => 94 | 4 => 4 | 5 => 5 | 167 => 100 | 37 => 22 | 0 => 0 | 85 => 101 | 2 => 2 | 168 => 103 | 53 => 55 | 175 => 106 | 46 => 108 | 210 => 111 | 127 => 115 | 145 => 118 | 143 => 116 | 21 => 21 | 171 => 120 | 173 => 123 | 212 => 127 | 51 => 128 | 20 => 20 | 213 => 129 | 232 => 133 | 233 => 134 | 80 => 87 | n => n, fun | 15 => 2 | 16 => 3 | 17 => 4 | 18 => 5 | 19 => 6 | n => n⟩
theorem Tryd.laysC172 : Go.Proofs.LaysC.n172 Tryd.prog Tryd.laysC172_ren := {
 mixed := by kernel_rfl
 f129 := Tryd.func92.trans (congrArg some (by kernel_rfl))
 f171 := Tryd.func82.trans (congrArg some (by kernel_rfl))
 f172 := Tryd.func57.trans (congrArg some (by kernel_rfl))
 f205 := Tryd.func81.trans (congrArg some (by kernel_rfl))
 f243 := Tryd.func85.trans (congrArg some (by kernel_rfl))
 f244 := Tryd.func64.trans (congrArg some (by kernel_rfl))
 f245 := Tryd.func65.trans (congrArg some (by kernel_rfl))
 f246 := Tryd.func86.trans (congrArg some (by kernel_rfl))
 f247 := Tryd.func73.trans (congrArg some (by kernel_rfl))
 f279 := Tryd.func74.trans (congrArg some (by kernel_rfl))
 f280 := Tryd.func75.trans (congrArg some (by kernel_rfl))
 f281 := Tryd.func76.trans (congrArg some (by kernel_rfl))
 f282 := Tryd.func77.trans (congrArg some (by kernel_rfl))
 f283 := Tryd.func87.trans (congrArg some (by kernel_rfl))
 f284 := Tryd.func88.trans (congrArg some (by kernel_rfl))
 f285 := Tryd.func89.trans (congrArg some (by kernel_rfl))
 f286 := Tryd.func90.trans (congrArg some (by kernel_rfl))
 f287 := Tryd.func79.trans (congrArg some (by kernel_rfl))
 f316 := Tryd.func80.trans (congrArg some (by kernel_rfl))
 f317 := Tryd.func91.trans (congrArg some (by kernel_rfl))
 f318 := Tryd.func93.trans (congrArg some (by kernel_rfl))
 f319 := Tryd.func94.trans (congrArg some (by kernel_rfl))
 f320 := Tryd.func95.trans (congrArg some (by kernel_rfl))
 f321 := Tryd.func83.trans (congrArg some (by kernel_rfl))
 f322 := Tryd.func84.trans (congrArg some (by kernel_rfl))
 f337 := Tryd.func96.trans (congrArg some (by kernel_rfl))
 f338 := Tryd.func97.trans (congrArg some (by kernel_rfl))
 t0 := Tryd.underlying0
 a0 := Tryd.isAgg0
 z0 := Tryd.sizeOf0
 v0 := Tryd.zeroValue0
 t2 := Tryd.underlying2
 a2 := Tryd.isAgg2
 z2 := Tryd.sizeOf2
 v2 := Tryd.zeroValue2
 t3 := Tryd.underlying3
 a3 := Tryd.isAgg3
 z3 := Tryd.sizeOf3
 v3 := Tryd.zeroValue3
 t4 := Tryd.underlying4
 a4 := Tryd.isAgg4
 z4 := Tryd.sizeOf4
 v4 := Tryd.zeroValue4
 t5 := Tryd.underlying5
 a5 := Tryd.isAgg5
 z5 := Tryd.sizeOf5
 v5 := Tryd.zeroValue5
 t9 := Tryd.underlying9
 a9 := Tryd.isAgg9
 z9 := Tryd.sizeOf9
 v9 := Tryd.zeroValue9
 t20 := Tryd.underlying20
 a20 := Tryd.isAgg20
 z20 := Tryd.sizeOf20
 v20 := Tryd.zeroValue20
 t21 := Tryd.underlying21
 a21 := Tryd.isAgg21
 z21 := Tryd.sizeOf21
 v21 := Tryd.zeroValue21
 t37 := Tryd.underlying22
 a37 := Tryd.isAgg22
 z37 := Tryd.sizeOf22
 v37 := Tryd.zeroValue22
 t46 := Tryd.underlying108
 a46 := Tryd.isAgg108
 z46 := Tryd.sizeOf108
 v46 := Tryd.zeroValue108
 t51 := Tryd.underlying128
 a51 := Tryd.isAgg128
 z51 := Tryd.sizeOf128
 v51 := Tryd.zeroValue128
 t53 := Tryd.underlying55
 a53 := Tryd.isAgg55
 z53 := Tryd.sizeOf55
 v53 := Tryd.zeroValue55
 t75 := Tryd.underlying93
 a75 := Tryd.isAgg93
 z75 := Tryd.sizeOf93
 v75 := Tryd.zeroValue93
 t76 := Tryd.underlying94
 a76 := Tryd.isAgg94
 z76 := Tryd.sizeOf94
 v76 := Tryd.zeroValue94
 t85 := Tryd.underlying101
 a85 := Tryd.isAgg101
 z85 := Tryd.sizeOf101
 v85 := Tryd.zeroValue101
 t127 := Tryd.underlying115
 a127 := Tryd.isAgg115
 z127 := Tryd.sizeOf115
 v127 := Tryd.zeroValue115
 t143 := Tryd.underlying116
 a143 := Tryd.isAgg116
 z143 := Tryd.sizeOf116
 v143 := Tryd.zeroValue116
 t145 := Tryd.underlying118
 a145 := Tryd.isAgg118
 z145 := Tryd.sizeOf118
 v145 := Tryd.zeroValue118
 t167 := Tryd.underlying100
 a167 := Tryd.isAgg100
 z167 := Tryd.sizeOf100
 v167 := Tryd.zeroValue100
 t168 := Tryd.underlying103
 a168 := Tryd.isAgg103
 z168 := Tryd.sizeOf103
 v168 := Tryd.zeroValue103
 t171 := Tryd.underlying120
 a171 := Tryd.isAgg120
 z171 := Tryd.sizeOf120
 v171 := Tryd.zeroValue120
 t173 := Tryd.underlying123
 a173 := Tryd.isAgg123
 z173 := Tryd.sizeOf123
 v173 := Tryd.zeroValue123
 t175 := Tryd.underlying106
 a175 := Tryd.isAgg106
 z175 := Tryd.sizeOf106
 v175 := Tryd.zeroValue106
 t210 := Tryd.underlying111
 a210 := Tryd.isAgg111
 z210 := Tryd.sizeOf111
 v210 := Tryd.zeroValue111
 t212 := Tryd.underlying127
 a212 := Tryd.isAgg127
 z212 := Tryd.sizeOf127
 v212 := Tryd.zeroValue127
 t213 := Tryd.underlying129
 a213 := Tryd.isAgg129
 z213 := Tryd.sizeOf129
 t232 := Tryd.underlying133
 a232 := Tryd.isAgg133
 z232 := Tryd.sizeOf133
 v232 := Tryd.zeroValue133
 t233 := Tryd.underlying134
 a233 := Tryd.isAgg134
 z233 := Tryd.sizeOf134
 v233 := Tryd.zeroValue134
 g15 := by kernel_rfl
 g16 := by kernel_rfl
 g17 := by kernel_rfl
 g18 := by kernel_rfl
 g19 := by kernel_rfl
 t80 := Tryd.underlying87
 a80 := Tryd.isAgg87
 z80 := Tryd.sizeOf87
 v80 := Tryd.zeroValue87
 i0 := by kernel_rfl
 i2 := by kernel_rfl
 i3 := by kernel_rfl
 i4 := by kernel_rfl
 i5 := by kernel_rfl
 i9 := by kernel_rfl
 i20 := by kernel_rfl
 i21 := by kernel_rfl
 i37 := by kernel_rfl
 i46 := by kernel_rfl
 i51 := by kernel_rfl
 i53 := by kernel_rfl
 i75 := by kernel_rfl
 i76 := by kernel_rfl
 i80 := by kernel_rfl
 i85 := by kernel_rfl
 i127 := by kernel_rfl
 i143 := by kernel_rfl
 i145 := by kernel_rfl
 i167 := by kernel_rfl
 i168 := by kernel_rfl
 i171 := by kernel_rfl
 i173 := by kernel_rfl
 i175 := by kernel_rfl
 i210 := by kernel_rfl
 i212 := by kernel_rfl
 i232 := by kernel_rfl
 i233 := by kernel_rfl
 m15 := by kernel_rfl
 m16 := by kernel_rfl
 m17 := by kernel_rfl
 m18 := by kernel_rfl
 m19 := by kernel_rfl
 c0 := by kernel_rfl
 c2 := by kernel_rfl
 c3 := by kernel_rfl
 c4 := by kernel_rfl
 c5 := by kernel_rfl
 c9 := by kernel_rfl
 c20 := by kernel_rfl
 c21 := by kernel_rfl
 c37 := by kernel_rfl
 c46 := by kernel_rfl
 c51 := by kernel_rfl
 c53 := by kernel_rfl
 c75 := by kernel_rfl
 c76 := by kernel_rfl
 c80 := by kernel_rfl
 c85 := by kernel_rfl
 c127 := by kernel_rfl
 c143 := by kernel_rfl
 c145 := by kernel_rfl
 c167 := by kernel_rfl
 c168 := by kernel_rfl
 c171 := by kernel_rfl
 c173 := by kernel_rfl
 c175 := by kernel_rfl
 c210 := by kernel_rfl
 c212 := by kernel_rfl
 c213 := by kernel_rfl
 c232 := by kernel_rfl
 c233 := by kernel_rfl }
open Go.RowKit in
theorem Tryd.strconv_Atoi_ok (s : ByteArray) (hmax : s.size ≤ 9223372036854775806) (v : Int) (h : Lib.atoiAll s.data.toList = .ok v) (w : World) :
 Calls Tryd.prog 57 #[.string s] w fun e w' => e = .returned (.tuple #[.int .i64 v, .nilIface]) ∧ (w' = w ∨ ∃ t, w' = Lib.bytesWorld w 5 t) := Any.strconv_Atoi_ok Tryd.laysC172 s hmax v h w
open Go.RowKit in
theorem Tryd.strconv_Atoi_syntax (s : ByteArray) (hlim : s.size ≤ 281474976710656) (h : Lib.atoiAll s.data.toList = .«syntax») (ev : Value) (w : World) (hv : w.cell? ⟨2, 0, none⟩ = some ev) (hev : ev = .nilIface ∨ ∃ te pe, ev = .iface te pe) :
 Calls Tryd.prog 57 #[.string s] w fun e w' => ∃ N, e = .returned (.tuple #[.int .i64 (0), .iface 103 (.pointer (some ⟨N, 0, none⟩))]) ∧ w.heap.size ≤ N ∧ w'.heap[N]? = some (.cells #[.string ⟨#[65, 116, 111, 105]⟩, .string s, ev] 111 (0, 0)) ∧ Below w.heap.size w w' := Any.strconv_Atoi_syntax Tryd.laysC172 s hlim h ev w hv hev
open Go.RowKit in
theorem Tryd.strconv_Atoi_range (s : ByteArray) (hlim : s.size ≤ 281474976710656) (h : Lib.atoiAll s.data.toList = .range) (ev : Value) (w : World) (hv : w.cell? ⟨3, 0, none⟩ = some ev) (hev : ev = .nilIface ∨ ∃ te pe, ev = .iface te pe) :
 Calls Tryd.prog 57 #[.string s] w fun e w' => ∃ N, e = .returned (.tuple #[.int .i64 (Lib.atoiSat s.data.toList), .iface 103 (.pointer (some ⟨N, 0, none⟩))]) ∧ w.heap.size ≤ N ∧ w'.heap[N]? = some (.cells #[.string ⟨#[65, 116, 111, 105]⟩, .string s, ev] 111 (0, 0)) ∧ Below w.heap.size w w' := Any.strconv_Atoi_range Tryd.laysC172 s hlim h ev w hv hev
open Go.RowKit in
theorem Tryd.strconv_Atoi_syntax_var (s : ByteArray) (hlim : s.size ≤ 281474976710656) (h : Lib.atoiAll s.data.toList = .«syntax») (tp : TypeId) (p : Value) (w : World) (hvar : w.var? Tryd.prog "strconv.ErrSyntax" = some #[.iface tp p]) :
 Calls Tryd.prog 57 #[.string s] w fun e w' => ∃ N, e = .returned (.tuple #[.int .i64 0, .iface 103 (.pointer (some ⟨N, 0, none⟩))]) ∧ w.heap.size ≤ N ∧ w'.heap[N]? = some (.cells #[.string ⟨#[65, 116, 111, 105]⟩, .string s, .iface tp p] 111 (0, 0)) ∧ Below w.heap.size w w' := Any.strconv_Atoi_syntax_var Tryd.laysC172 s hlim h tp p w hvar
open Go.RowKit in
theorem Tryd.strconv_Atoi_range_var (s : ByteArray) (hlim : s.size ≤ 281474976710656) (h : Lib.atoiAll s.data.toList = .range) (tp : TypeId) (p : Value) (w : World) (hvar : w.var? Tryd.prog "strconv.ErrRange" = some #[.iface tp p]) :
 Calls Tryd.prog 57 #[.string s] w fun e w' => ∃ N, e = .returned (.tuple #[.int .i64 (Lib.atoiSat s.data.toList), .iface 103 (.pointer (some ⟨N, 0, none⟩))]) ∧ w.heap.size ≤ N ∧ w'.heap[N]? = some (.cells #[.string ⟨#[65, 116, 111, 105]⟩, .string s, .iface tp p] 111 (0, 0)) ∧ Below w.heap.size w w' := Any.strconv_Atoi_range_var Tryd.laysC172 s hlim h tp p w hvar
def Tryd.lays217_ren : Go.Shelf.Ren := ⟨fun | 217 => 60 | 266 => 72 | n => n, fun | 9 => 9 | 5 => 5 | 3 => 3 | n => n, fun | n => n⟩
theorem Tryd.lays217 : Go.Proofs.Lays.n217 Tryd.prog Tryd.lays217_ren := {
 mixed := by kernel_rfl
 f217 := Tryd.func60.trans (congrArg some (by kernel_rfl))
 f266 := Tryd.func72.trans (congrArg some (by kernel_rfl))
 t3 := Tryd.underlying3
 a3 := Tryd.isAgg3
 z3 := Tryd.sizeOf3
 v3 := Tryd.zeroValue3
 t5 := Tryd.underlying5
 a5 := Tryd.isAgg5
 z5 := Tryd.sizeOf5
 v5 := Tryd.zeroValue5
 t9 := Tryd.underlying9
 a9 := Tryd.isAgg9
 z9 := Tryd.sizeOf9
 v9 := Tryd.zeroValue9 }
open Go.RowKit Go.Lib in
theorem Tryd.stringslite_IndexByte (s : ByteArray) (c : Int) (w : World) :
 Calls Tryd.prog 60 #[.string s, .int .u8 c] w fun e w' => e = .returned (.int .i64 (Lib.indexByte s.data.toList c.toNat.toUInt8)) ∧ w' = w := Any.stringslite_IndexByte Tryd.lays217 s c w
def Tryd.lays206_ren : Go.Shelf.Ren := ⟨fun | 206 => 59 | n => n, fun | 9 => 9 | 4 => 4 | 3 => 3 | n => n, fun | n => n⟩
theorem Tryd.lays206 : Go.Proofs.Lays.n206 Tryd.prog Tryd.lays206_ren := {
 mixed := by kernel_rfl
 f206 := Tryd.func59.trans (congrArg some (by kernel_rfl))
 t3 := Tryd.underlying3
 a3 := Tryd.isAgg3
 z3 := Tryd.sizeOf3
 v3 := Tryd.zeroValue3
 t4 := Tryd.underlying4
 a4 := Tryd.isAgg4
 z4 := Tryd.sizeOf4
 v4 := Tryd.zeroValue4
 t9 := Tryd.underlying9
 a9 := Tryd.isAgg9
 z9 := Tryd.sizeOf9
 v9 := Tryd.zeroValue9 }
open Go.RowKit Go.Lib in
theorem Tryd.stringslite_HasPrefix (s p : ByteArray) (w : World) :
 Calls Tryd.prog 59 #[.string s, .string p] w fun e w' => e = .returned (.bool (Lib.hasPrefix s.data.toList p.data.toList)) ∧ w' = w := Any.stringslite_HasPrefix Tryd.lays206 s p w
def Tryd.lays99_ren : Go.Shelf.Ren := ⟨fun | 99 => 51 | 206 => 59 | n => n, fun | 9 => 9 | 4 => 4 | 3 => 3 | n => n, fun | n => n⟩
theorem Tryd.lays99 : Go.Proofs.Lays.n99 Tryd.prog Tryd.lays99_ren := {
 mixed := by kernel_rfl
 f99 := Tryd.func51.trans (congrArg some (by kernel_rfl))
 f206 := Tryd.func59.trans (congrArg some (by kernel_rfl))
 t3 := Tryd.underlying3
 a3 := Tryd.isAgg3
 z3 := Tryd.sizeOf3
 v3 := Tryd.zeroValue3
 t4 := Tryd.underlying4
 a4 := Tryd.isAgg4
 z4 := Tryd.sizeOf4
 v4 := Tryd.zeroValue4
 t9 := Tryd.underlying9
 a9 := Tryd.isAgg9
 z9 := Tryd.sizeOf9
 v9 := Tryd.zeroValue9 }
open Go.RowKit Go.Lib in
theorem Tryd.strings_HasPrefix (s p : ByteArray) (w : World) :
 Calls Tryd.prog 51 #[.string s, .string p] w fun e w' => e = .returned (.bool (Lib.hasPrefix s.data.toList p.data.toList)) ∧ w' = w := Any.strings_HasPrefix Tryd.lays99 s p w
end Go.Proofs
namespace Bk
open Go Go.RowKit Go.Proofs
theorem ret_int {k : IntKind} {a b : Int} (h : a = b) : Ending.returned (.int k a) = .returned (.int k b) := by rw [h]
theorem ret_bool {a b : Bool} (h : a = b) : Ending.returned (.bool a) = .returned (.bool b) := by rw [h]
theorem arith_Level_c (k : Int) (w : World) (h0 : 0 ≤ k) (h1 : k ≤ 255) : Calls Tryd.prog 19 #[.int .u8 k] w fun e w' => e = .returned (.int .i64 (level k)) ∧ w = w' := by
 go_enter Tryd.func19, Tryd.ntmps19
 go_wp2_with fail
 all_goals go_ret
 all_goals (refine ⟨ret_int ?_, rfl⟩; (try simp only [beq_iff_eq, beq_eq_false_iff_ne, ne_eq, bne_iff_ne, decide_eq_true_eq, decide_eq_false_iff_not] at *); first | (subst k; rfl) | (unfold level; (repeat' split) <;> omega))
structure Syms (w : World) : Prop where
 sym : ∀ i, i < 43 → w.cell? ⟨0, i, none⟩ = some (str (symbols.getD i []))
theorem Syms.ext {w w' : World} (h : Syms w) (x : Ext w w') : Syms w' := ⟨fun i hi => x.keep (h.sym i hi)⟩
theorem Syms.fr {S : Nat → Prop} {w w' : World} (h : Syms w) (x : Fr S w w') (hs : ∀ k, S k → 0 < k) : Syms w' := ⟨fun i hi => x.keep (fun e => by have := hs _ e; omega) (h.sym i hi)⟩
theorem symbol_out (k : Int) (h : 43 ≤ k) : symbol k = [] := by
 unfold symbol
 rw [List.getD_eq_getElem?_getD, List.getElem?_eq_none (show 43 ≤ k.toNat by omega)]
 rfl
theorem arith_Symbol_s (k : Int) (w : World) (h0 : 0 ≤ k) (h1 : k ≤ 255) (ht : Syms w) : Calls Tryd.prog 18 #[.int .u8 k] w fun e w' => e = .returned (str (symbol k)) ∧ w = w' := by
 by_cases hk : k < 43
 · have g := ht.sym k.toNat (by omega)
   have G : Hid (symbols.getD k.toNat [] = symbol k) := Lib.hid rfl; clear ht
   go_enter Tryd.func18, Tryd.ntmps18
   go_wp2_with fail
   go_ret
   rw [← G.out]
   exact ⟨by simp [go_sem], rfl⟩
 · have hn := symbol_out k (by omega)
   have HN := Lib.hid hn; clear hn ht
   go_enter Tryd.func18, Tryd.ntmps18
   go_wp2_with fail
   go_ret
   rw [HN.out]
   exact ⟨rfl, rfl⟩
end Bk
namespace Bk
open Go Go.RowKit Go.Proofs
theorem letter_c (c : UInt8) (w : World) : Calls Tryd.prog 37 #[.int .u8 c.toNat] w fun e w' => e = .returned (.bool (letter c)) ∧ w = w' := by
 go_enter Tryd.func37, Tryd.ntmps37
 go_wp2_with fail
 all_goals go_ret
 all_goals (refine ⟨ret_bool ?_, rfl⟩; unfold letter; rw [Bool.eq_iff_iff]; simp; try omega)
theorem digit_c (c : UInt8) (w : World) : Calls Tryd.prog 40 #[.int .u8 c.toNat] w fun e w' => e = .returned (.bool (digit c)) ∧ w = w' := by
 go_enter Tryd.func40, Tryd.ntmps40
 go_wp2_with fail
 all_goals go_ret
 all_goals (refine ⟨ret_bool ?_, rfl⟩; unfold digit; rw [Bool.eq_iff_iff]; simp; try omega)
theorem blank_c (c : UInt8) (w : World) : Calls Tryd.prog 41 #[.int .u8 c.toNat] w fun e w' => e = .returned (.bool (blank c)) ∧ w = w' := by
 go_enter Tryd.func41, Tryd.ntmps41
 go_wp2_with fail
 all_goals go_ret
 all_goals (refine ⟨ret_bool ?_, rfl⟩; unfold blank; rw [Bool.eq_iff_iff]; simp; try omega)
theorem notLf_c (c : UInt8) (w : World) : Calls Tryd.prog 42 #[.int .u8 c.toNat] w fun e w' => e = .returned (.bool (notLf c)) ∧ w = w' := by
 go_enter Tryd.func42, Tryd.ntmps42
 go_wp2_with fail
 all_goals go_ret
 all_goals (refine ⟨ret_bool ?_, rfl⟩; unfold notLf; rw [Bool.eq_iff_iff]; simp; try omega)
theorem wordish_c (c : UInt8) (w : World) : Calls Tryd.prog 39 #[.int .u8 c.toNat] w fun e w' => e = .returned (.bool (wordish c)) ∧ w = w' := by
 go_enter Tryd.func39, Tryd.ntmps39
 cases hl : letter c
 all_goals have HL := Lib.hid hl; clear hl
 all_goals go_wp2_with (first | (go_at_call 37; refine (letter_c c _).mono ?_; rintro e w' ⟨rfl, rfl⟩; rw [HL.out]) | (go_at_call 40; refine (digit_c c _).mono ?_; rintro e w' ⟨rfl, rfl⟩))
 all_goals go_ret
 all_goals (refine ⟨ret_bool ?_, rfl⟩; unfold wordish; rw [HL.out]; simp)
theorem span_c (f : FuncId) (p : UInt8 → Bool) (hp : ∀ (c : UInt8) (w : World), Calls Tryd.prog f #[.int .u8 c.toNat] w fun e w' => e = .returned (.bool (p c)) ∧ w = w')
 (he : ∀ args w, (callFunc f args).run Tryd.prog w = .ok (.enter f args) w) (s : List UInt8) (w : World) (hs : s.length ≤ 9223372036854775807) :
 Calls Tryd.prog 38 #[str s, .func (.func f) #[] #[]] w fun e w' => e = .returned (.int .i64 (span p s)) ∧ w = w' := by
 have HP := Lib.hid hp; clear hp
 go_enter Tryd.func38, Tryd.ntmps38
 go_wp2_with fail
 go_loop [8] (fun i => ∃ j : Nat, j ≤ s.length ∧ i = .int .i64 j ∧ Hid (span p s = j + span p (s.drop j))) (fun i => s.length - (intOf i).toNat)
 case atStart => exact ⟨0, Nat.zero_le _, rfl, Lib.hid (by simp)⟩
 case round =>
  obtain ⟨j, hj, rfl, HJ⟩ := hrel
  by_cases hlt : j < s.length
  · go_wp2_with fail
    refine (HP.out s[j] _).mono ?_; rintro e w' ⟨rfl, rfl⟩; have hd := List.drop_eq_getElem_cons hlt
    have hsp : span p (s.drop j) = if p s[j] then 1 + span p (s.drop (j + 1)) else 0 := by
     rw [hd]; unfold span; rw [List.takeWhile_cons]; split <;> simp; omega
    have HSP := Lib.hid hsp; clear hsp hd
    cases hb : p s[j]
    · have HB := Lib.hid hb; clear hb
      go_wp2_with fail
      go_ret
      refine ⟨ret_int ?_, rfl⟩
      rw [HJ.out, HSP.out, HB.out]; simp
    · have HB := Lib.hid hb; clear hb
      go_wp2_with fail
      go_round
      case rel => exact ⟨j + 1, by omega, by go_num, Lib.hid (by rw [HJ.out, HSP.out, HB.out]; simp; omega)⟩
      case measure => simp [intOf]; omega
  · go_wp2_with fail
    go_ret
    refine ⟨ret_int ?_, rfl⟩
    rw [HJ.out, List.drop_eq_nil_of_le (by omega)]; simp [span]; omega
end Bk
namespace Bk
open Go Go.RowKit Go.Proofs
theorem take2_eq (s : List UInt8) (n : Int) (hn : n.toNat = min 2 s.length) : (⟨s.toArray⟩ : ByteArray).extract 0 n.toNat = ⟨(s.take 2).toArray⟩ := by
 apply ByteArray.ext
 rw [hn]; simp only [ByteArray.data_extract]
 apply Array.ext'
 simp only [List.extract_toArray, List.extract_eq_take_drop, Nat.sub_zero, List.drop_zero]
 rcases Nat.le_total 2 s.length with h | h
 · rw [Nat.min_eq_left h]
 · rw [Nat.min_eq_right h, List.take_of_length_le h, List.take_length]
theorem indexByte_ge : ∀ (l : List UInt8) (c : UInt8), -1 ≤ Lib.indexByte l c
 | [], c => by simp [Lib.indexByte]
 | b :: l, c => by
  have := indexByte_ge l c
  unfold Lib.indexByte
  split
  · omega
  · split <;> omega
theorem indexByte_contains : ∀ (l : List UInt8) (c : UInt8), (0 ≤ Lib.indexByte l c) ↔ l.contains c = true
 | [], c => by simp [Lib.indexByte]
 | b :: l, c => by
  have ih := indexByte_contains l c; have hg := indexByte_ge l c
  unfold Lib.indexByte
  rw [List.contains_cons]
  by_cases hb : b = c
  · simp [hb]
  · have hb' : ¬ c = b := fun e => hb e.symm
    simp only [beq_iff_eq, hb, hb', if_false, Bool.or_eq_true, false_or, ← ih]
    split <;> omega
theorem sign_c (c : UInt8) (r : List UInt8) (w : World) (hs : (c :: r).length ≤ 9223372036854775807) :
 Calls Tryd.prog 43 #[str (c :: r)] w fun e w' => e = .returned (.int .i64 (signLen (c :: r))) ∧ w = w' := by
 simp only [List.length_cons] at hs; have hx := take2_eq (c :: r) (min 2 ((r.length : Int) + 1)) (by simp only [List.length_cons]; omega)
 have hsl : signLen (c :: r) = if List.isPrefixOf [60, 61, 62] (c :: r) then 3 else if pairs.contains ((c :: r).take 2) then 2 else if singles.contains c then 1 else 0 := rfl
 have HSL := Lib.hid hsl; clear hsl
 generalize (c :: r).take 2 = t at *
 cases h3 : List.isPrefixOf [60, 61, 62] (c :: r)
 · have H3 := Lib.hid h3; clear h3
   cases hp : pairs.contains t
   · have HP := Lib.hid hp
     simp only [pairs, List.contains_cons, List.contains_nil, Bool.or_eq_false_iff, Bool.or_false] at hp; obtain ⟨p0, p1, p2, p3, p4, p5, p6, p7, p8, p9⟩ := hp
     go_enter Tryd.func43, Tryd.ntmps43
     go_wp2_with (go_at_call 51; refine (Tryd.strings_HasPrefix _ _ _).mono ?_; rintro e w' ⟨rfl, rfl⟩; rw [show Lib.hasPrefix (⟨(c :: r).toArray⟩ : ByteArray).data.toList (⟨#[60, 61, 62]⟩ : ByteArray).data.toList = false from H3.out])
     refine (Tryd.strings_IndexByte _ _ _).mono ?_; rintro e w2 ⟨rfl, rfl⟩
     have e0 : (((c.toNat : Nat) : Int)).toNat.toUInt8 = c := by simp
     have e1 : ∀ h, (((((⟨(c :: r).toArray⟩ : ByteArray)[0]'h).toNat : Nat) : Int)).toNat.toUInt8 = c := fun _ => e0
     rw [e1]; have hi := indexByte_contains singles c; rw [show Lib.indexByte (⟨#[43, 45, 42, 47, 37, 38, 124, 94, 33, 61, 60, 62, 40, 41, 123, 125, 91, 93, 59, 44]⟩ : ByteArray).data.toList c = Lib.indexByte singles c from rfl]
     generalize Lib.indexByte singles c = ix at *
     cases hc : singles.contains c
     · have hlt : ix < 0 := by rw [hc] at hi; simp at hi; omega
       have HC := Lib.hid hc; clear hc hi
       simp only
       go_wp2_with fail
       go_ret
       rw [HSL.out, H3.out, HP.out, HC.out]; exact ⟨rfl, rfl⟩
     · have hge : 0 ≤ ix := hi.2 hc
       have HC := Lib.hid hc; clear hc hi
       simp only
       go_wp2_with fail
       go_ret
       rw [HSL.out, H3.out, HP.out, HC.out]; exact ⟨rfl, rfl⟩
   · go_enter Tryd.func43, Tryd.ntmps43
     go_wp2_with (go_at_call 51; refine (Tryd.strings_HasPrefix _ _ _).mono ?_; rintro e w' ⟨rfl, rfl⟩; rw [show Lib.hasPrefix (⟨(c :: r).toArray⟩ : ByteArray).data.toList (⟨#[60, 61, 62]⟩ : ByteArray).data.toList = false from H3.out])
     all_goals first | (go_ret; rw [HSL.out, H3.out, hp]; exact ⟨rfl, rfl⟩) | (exfalso; simp_all [pairs]; done)
 · have H3 := Lib.hid h3; clear h3
   go_enter Tryd.func43, Tryd.ntmps43
   go_wp2_with (go_at_call 51; refine (Tryd.strings_HasPrefix _ _ _).mono ?_; rintro e w' ⟨rfl, rfl⟩; rw [show Lib.hasPrefix (⟨(c :: r).toArray⟩ : ByteArray).data.toList (⟨#[60, 61, 62]⟩ : ByteArray).data.toList = true from H3.out])
   go_ret
   rw [HSL.out, H3.out]; exact ⟨rfl, rfl⟩
end Bk
namespace Bk
open Go Go.RowKit Go.Proofs
def kwEntries : List (List UInt8) → Nat → List MapEntry
 | [], _ => []
 | k :: r, i => { key := str k, val := .bool true, born := i } :: kwEntries r (i + 1)
def kwMap (ks : List (List UInt8)) : Obj := .map (kwEntries ks 0).toArray ks.length
theorem kwEntries_snoc (ks : List (List UInt8)) (k : List UInt8) : ∀ i, kwEntries (ks ++ [k]) i = kwEntries ks i ++ [{ key := str k, val := .bool true, born := i + ks.length }] := by
 induction ks with
 | nil => intro i; simp [kwEntries]
 | cons x r ih => intro i; simp [kwEntries, ih, Nat.add_assoc, Nat.add_comm 1]
theorem ba_beq (b : ByteArray) (x : List UInt8) : (b == (⟨x.toArray⟩ : ByteArray)) = (b.data.toList == x) := by
 show (b.data == x.toArray) = _
 rw [Bool.eq_iff_iff]; simp
 constructor
 · intro h; rw [h]
 · intro h; rw [← h]
theorem findNow_kw (b : ByteArray) (ks : List (List UInt8)) : ∀ i j, (ks.contains b.data.toList = false → Instr.findNow .string (.string b) (kwEntries ks i) j = some none) ∧
 (ks.contains b.data.toList = true → ∃ n, Instr.findNow .string (.string b) (kwEntries ks i) j = some (some (n, .bool true))) := by
 induction ks with
 | nil => intro i j; simp [kwEntries, Instr.findNow]
 | cons x r ih =>
  intro i j; simp only [kwEntries, Instr.findNow, Instr.sameNow, ba_beq, List.contains_cons]
  cases h : b.data.toList == x
  · simpa using ih (i + 1) (j + 1)
  · simp
theorem push_set (h : Array Obj) (a b : Obj) : (h.push a).setIfInBounds h.size b = h.push b := by
 apply Array.ext'
 simp
theorem underMap : Tryd.prog.underlying 99 = some (.map 9 4) := by kernel_rfl
theorem underStr : Tryd.prog.underlying 9 = some .string := by kernel_rfl
theorem run_kw_ins (w : World) (ks : List (List UInt8)) (b : ByteArray) (h : ks.contains b.data.toList = false) :
 (Instr.mapUpdate 99 (.map (some w.heap.size)) (.string b) (.bool true)).run Tryd.prog (w.alloc (kwMap ks)) = .ok () (w.alloc (kwMap (ks ++ [b.data.toList]))) := by
 have hb : (w.alloc (kwMap ks)).heap[w.heap.size]? = some (.map (kwEntries ks 0).toArray ks.length) := by show (w.heap.push (kwMap ks))[w.heap.size]? = _; simp [kwMap]
 have hf : Instr.findNow .string (.string b) (kwEntries ks 0) 0 = some none := (findNow_kw b ks 0 0).1 h; have hc : (Instr.checkKey false 10000 9 (.string b)).run Tryd.prog (w.alloc (kwMap ks)) = .ok () (w.alloc (kwMap ks)) := MapKept.run_checkKey (k := .string b) underStr (by simp [MapKept.IsKey]) false 9999
 simp [Instr.mapUpdate, run_underlying underMap, MapKept.run_getObj_map hb, hc, MapKept.run_findKey underStr hf, MapKept.run_setObj_map _ hb, Result.andThen]
 show ({ w with heap := (w.heap.push (kwMap ks)).setIfInBounds w.heap.size _ } : World) = { w with heap := w.heap.push _ }
 rw [push_set]
 unfold kwMap
 rw [kwEntries_snoc]
 simp
theorem run_kw_look (w : World) (ks : List (List UInt8)) (b : ByteArray) :
 (Instr.lookup 99 (.map (some w.heap.size)) (.string b) false).run Tryd.prog (w.alloc (kwMap ks)) = .ok (.bool (ks.contains b.data.toList)) (w.alloc (kwMap ks)) := by
 have hb : (w.alloc (kwMap ks)).heap[w.heap.size]? = some (.map (kwEntries ks 0).toArray ks.length) := by show (w.heap.push (kwMap ks))[w.heap.size]? = _; simp [kwMap]
 have hc : ∀ q, (Instr.checkKey q 10000 9 (.string b)).run Tryd.prog (w.alloc (kwMap ks)) = .ok () (w.alloc (kwMap ks)) := fun q => MapKept.run_checkKey (k := .string b) underStr (by simp [MapKept.IsKey]) q 9999
 have hz : (zeroValue 4).run Tryd.prog (w.alloc (kwMap ks)) = .ok (.bool false) (w.alloc (kwMap ks)) := by kernel_rfl
 cases hk : ks.contains b.data.toList
 · have hf := (findNow_kw b ks 0 0).1 hk
   simp [Instr.lookup, run_underlying underMap, MapKept.run_getObj_map hb, hc, MapKept.run_findKey underStr hf, hz, Result.andThen]
 · obtain ⟨n, hf⟩ := (findNow_kw b ks 0 0).2 hk
   simp [Instr.lookup, run_underlying underMap, MapKept.run_getObj_map hb, hc, MapKept.run_findKey underStr hf, Result.andThen]
theorem run_kw_make (w : World) : (Instr.makeMap 99 none).run Tryd.prog w = .ok (.map (some w.heap.size)) (w.alloc (kwMap [])) := run_makeMap _ w
theorem keyword_len (s : List UInt8) (h : keyword s = true) : 2 ≤ s.length ∧ s.length ≤ 7 := by
 have key : ∀ k ∈ keywords, 2 ≤ k.length ∧ k.length ≤ 7 := by decide
 exact key s (by simpa [keyword] using h)
set_option maxRecDepth 100000 in
theorem Keyword_c (s : List UInt8) (w : World) (hs : s.length ≤ 9223372036854775807) :
 Calls Tryd.prog 63 #[str s] w fun e w' => e = .returned (.bool (keyword s)) ∧ Ext w w' := by
 by_cases h2 : s.length < 2 ∨ 7 < s.length
 · have hk : keyword s = false := by
    cases h : keyword s
    · rfl
    · have := keyword_len s h; omega
   have HK := Lib.hid hk; clear hk
   by_cases h3 : s.length < 2
   · have d1 : decide ((s.length : Int) < 2) = true := by simp; omega
     clear h2
     go_enter Tryd.func63, Tryd.ntmps63
     go_wp2_with fail
     go_ret
     rw [HK.out]; exact ⟨rfl, Ext.refl _⟩
   · have d1 : decide ((s.length : Int) < 2) = false := by simp; omega
     have d2 : decide ((7 : Int) < s.length) = true := by simp; omega
     clear h2
     go_enter Tryd.func63, Tryd.ntmps63
     go_wp2_with fail
     go_ret
     rw [HK.out]; exact ⟨rfl, Ext.refl _⟩
 · have d1 : decide ((s.length : Int) < 2) = false := by simp; omega
   have d2 : decide ((7 : Int) < s.length) = false := by simp; omega
   have r1 := run_kw_make; have r2 := run_kw_ins w; have r3 := run_kw_look w
   go_enter Tryd.func63, Tryd.ntmps63
   go_wp2_with fail
   go_ret
   exact ⟨ret_bool (by simp [keyword, keywords]), (by refine Ext.alloc ?_ _; exact Ext.refl _)⟩
end Bk
namespace Bk
open Go Go.RowKit Go.Proofs
theorem en_digit : ∀ args w, (callFunc 40 args).run Tryd.prog w = .ok (.enter 40 args) w := enters_of Tryd.func40 (by kernel_rfl) rfl
theorem en_blank : ∀ args w, (callFunc 41 args).run Tryd.prog w = .ok (.enter 41 args) w := enters_of Tryd.func41 (by kernel_rfl) rfl
theorem en_first1 : ∀ args w, (callFunc 39 args).run Tryd.prog w = .ok (.enter 39 args) w := enters_of Tryd.func39 (by kernel_rfl) rfl
theorem en_first2 : ∀ args w, (callFunc 42 args).run Tryd.prog w = .ok (.enter 42 args) w := enters_of Tryd.func42 (by kernel_rfl) rfl
theorem first_c (c : UInt8) (r : List UInt8) (w : World) (hs : (c :: r).length ≤ 9223372036854775807) :
 Calls Tryd.prog 26 #[str (c :: r)] w fun e w' => e = .returned (.tuple #[.int .u8 (firstTok (c :: r)).1, .int .i64 (firstTok (c :: r)).2]) ∧ w = w' := by
 have hf : firstTok (c :: r) = if letter c then (1, span wordish (c :: r)) else if digit c then (2, span digit (c :: r)) else if blank c then (4, span blank (c :: r)) else if c = 35 then (5, span notLf (c :: r)) else (3, signLen (c :: r)) := rfl
 have HF := Lib.hid hf; clear hf
 have HS := Lib.hid hs; simp only [List.length_cons] at hs
 go_enter Tryd.func26, Tryd.ntmps26
 go_wp2_with fail
 refine (letter_c c _).mono ?_; rintro e w1 ⟨rfl, rfl⟩
 cases hl : letter c
 · have HL := Lib.hid hl; clear hl
   simp only
   go_wp2_with fail
   refine (digit_c c _).mono ?_; rintro e w1 ⟨rfl, rfl⟩
   cases hd : digit c
   · have HD := Lib.hid hd; clear hd
     simp only
     go_wp2_with fail
     refine (blank_c c _).mono ?_; rintro e w1 ⟨rfl, rfl⟩
     cases hb : blank c
     · have HB := Lib.hid hb; clear hb
       simp only
       by_cases h35 : c = 35
       · have H35 := Lib.hid h35
         have e35 : (({ data := (c :: r).toArray } : ByteArray)[0]'(by simp [ByteArray.size])).toNat = 35 := by show c.toNat = 35; rw [h35]; rfl
         clear h35
         go_wp2_with fail
         refine (span_c 42 notLf notLf_c en_first2 _ _ HS.out).mono ?_; rintro e w1 ⟨rfl, rfl⟩; simp only
         go_wp2_with fail
         go_ret2
         rw [HF.out, HL.out, HD.out, HB.out, if_pos H35.out]; exact ⟨rfl, rfl⟩
       · have H35 := Lib.hid h35
         have e35 : ((({ data := (c :: r).toArray } : ByteArray)[0]'(by simp [ByteArray.size])).toNat : Int) ≠ 35 := by
          show (c.toNat : Int) ≠ 35
          intro h; apply h35; apply UInt8.toNat_inj.1; show c.toNat = 35; omega
         clear h35
         go_wp2_with fail
         refine (sign_c c r _ HS.out).mono ?_; rintro e w1 ⟨rfl, rfl⟩; simp only
         go_wp2_with fail
         go_ret2
         rw [HF.out, HL.out, HD.out, HB.out, if_neg H35.out]; exact ⟨rfl, rfl⟩
     · have HB := Lib.hid hb; clear hb
       simp only
       go_wp2_with fail
       refine (span_c 41 blank blank_c en_blank _ _ HS.out).mono ?_; rintro e w1 ⟨rfl, rfl⟩; simp only
       go_wp2_with fail
       go_ret2
       rw [HF.out, HL.out, HD.out, HB.out]; exact ⟨rfl, rfl⟩
   · have HD := Lib.hid hd; clear hd
     simp only
     go_wp2_with fail
     refine (span_c 40 digit digit_c en_digit _ _ HS.out).mono ?_; rintro e w1 ⟨rfl, rfl⟩; simp only
     go_wp2_with fail
     go_ret2
     rw [HF.out, HL.out, HD.out]; exact ⟨rfl, rfl⟩
 · have HL := Lib.hid hl; clear hl
   simp only
   go_wp2_with fail
   refine (span_c 39 wordish wordish_c en_first1 _ _ HS.out).mono ?_; rintro e w1 ⟨rfl, rfl⟩; simp only
   go_wp2_with fail
   go_ret2
   rw [HF.out, HL.out]; exact ⟨rfl, rfl⟩
theorem Name_c (s : List UInt8) (w : World) (hs : s.length ≤ 9223372036854775807) :
 Calls Tryd.prog 56 #[str s] w fun e w' => e = .returned (.bool (isName s)) ∧ Ext w w' := by
 cases s with
 | nil =>
  go_enter Tryd.func56, Tryd.ntmps56
  go_wp2_with fail
  go_ret
  exact ⟨rfl, Ext.refl _⟩
 | cons c r =>
  have hn : isName (c :: r) = (decide ((c :: r).length ≤ 16) && ((firstTok (c :: r)).1 == 1) && ((firstTok (c :: r)).2 == (c :: r).length) && !keyword (c :: r)) := by simp [isName]
  have HN := Lib.hid hn; clear hn
  have HS := Lib.hid hs; simp only [List.length_cons] at hs
  by_cases h16 : 16 < (c :: r).length
  · simp only [List.length_cons] at h16
    have d1 : decide ((16 : Int) < (r.length : Int) + 1) = true := by simp; omega
    have H16 := Lib.hid h16; clear h16
    go_enter Tryd.func56, Tryd.ntmps56
    go_wp2_with fail
    go_ret
    rw [HN.out]
    exact ⟨ret_bool (by have := H16.out; simp; omega), Ext.refl _⟩
  · simp only [List.length_cons] at h16
    have d1 : decide ((16 : Int) < (r.length : Int) + 1) = false := by simp; omega
    go_enter Tryd.func56, Tryd.ntmps56
    go_wp2_with fail
    refine (first_c c r _ HS.out).mono ?_; rintro e w1 ⟨rfl, rfl⟩
    generalize firstTok (c :: r) = ft at *
    obtain ⟨k, n⟩ := ft
    by_cases hk : k = 1
    · by_cases hl : n = (c :: r).length
      · subst hk hl
        simp only [List.length_cons]
        go_wp2_with fail
        refine (Keyword_c _ _ HS.out).mono ?_; rintro e w2 ⟨rfl, hx⟩; simp only
        go_wp2_with fail
        go_ret
        rw [HN.out]
        exact ⟨ret_bool (by simp; omega), hx⟩
      · subst hk
        have dl : ((n : Int) == (r.length : Int) + 1) = false := by simp only [List.length_cons] at hl; rw [beq_eq_false_iff_ne]; omega
        have HL := Lib.hid hl; clear hl
        simp only
        go_wp2_with fail
        go_ret
        rw [HN.out]
        exact ⟨ret_bool (by have := HL.out; simp at this ⊢; simp [this]), Ext.refl _⟩
    · have dk : ((k : Int) == 1) = false := by rw [beq_eq_false_iff_ne]; omega
      have HK := Lib.hid hk; clear hk
      simp only
      go_wp2_with fail
      go_ret
      rw [HN.out]
      exact ⟨ret_bool (by have := HK.out; simp [this]), Ext.refl _⟩
end Bk
namespace Bk
open Go Go.RowKit Go.Proofs
attribute [local irreducible] Go.Calls
theorem peek_len {c : PC} {σ : PS} {w : World} (hP : PP c σ w) : (peekP c.ts σ).text.length ≤ 1000000 := by
 by_cases h : σ.err ≠ 0 ∨ σ.at_ = c.ts.length
 · rw [peek_off h]; simp [Tok.zero]
 · have hlt : σ.at_ < c.ts.length := by have : σ.at_ ≠ c.ts.length := fun e => h (Or.inr e); have := hP.at_; omega
   rw [peek_is h hlt]
   exact hP.tok _ (List.getElem_mem hlt)
def TreeR (c : PC) (w : World) (r : Nd × PS) : Ending → World → Prop := fun e w' => ∃ a k, e = .returned (r.1.val a k) ∧ r.1.sits (fun b => w.heap.size ≤ b ∧ b < w'.heap.size) w' a ∧ PP c r.2 w' ∧ Fr (· = c.pb) w w'
theorem tree_ret {c : PC} {w w' : World} {r : Nd × PS} {a : Option Addr} {k : Nat} (hs : r.1.sits (w.heap.size ≤ ·) w' a) (hP : PP c r.2 w') (X : Fr (· = c.pb) w w') : TreeR c w r (.returned (r.1.val a k)) w' :=
 ⟨a, k, rfl, sits_lt2 _ _ hs, hP, X⟩
theorem TreeR.ret {c : PC} {w : World} {r : Nd × PS} {e : Ending} {w' : World} (h : TreeR c w r e w') : ∃ v, e = .returned v := by
 obtain ⟨_, _, h, -⟩ := h
 exact ⟨_, h⟩
set_option maxRecDepth 100000 in
set_option maxHeartbeats 1000000 in
theorem name_c (c : PC) (σ : PS) (w : World) (hP : PP c σ w) :
 Calls Tryd.prog 47 #[.pointer (some ⟨c.pb, 0, none⟩)] w fun r w' => r = .returned (str (nameP c.ts c.n σ).1) ∧ PP c (nameP c.ts c.n σ).2 w' ∧ Fr (· = c.pb) w w' := by
 have X := Fr.refl (· = c.pb) w; have hl := hP.len; have hpl := peek_len hP; have hpb := hP.pbB; have hB := hP.B
 cases h : isName (peekP c.ts σ).text
 · rw [show nameP c.ts c.n σ = ([], unexpP c.ts c.n σ) from by simp [nameP, h]]
   refine calls_in Tryd.func47 Tryd.ntmps47 rfl rfl ?_
   focus
    refine cS (cA rfl rfl (cN (cM rfl rfl ?_))); refine cC (by kernel_rfl) rfl (peek_c _ _ _ (by assumption)) rfl ?_; rintro _ w2 ⟨⟨⟩, x1⟩; have z3 := x1.size; replace hP := hP.ext x1; replace X := X.ext x1; clear x1; (refine lw_alloc' [_, _, _] zOk rfl rfl ?_; intro b4 w5 n6); (refine lw_init' [_, _, _] tabOk rfl rfl rfl rfl rfl rfl n6 rfl ?_; clear n6; clear w5; intro w7 n6); have h8 := n6.blk; have x9 := n6.ext; have p10 := n6.pos; have z11 := n6.size; clear n6; replace hP := hP.ext x9; replace X := X.ext x9; clear x9; refine cT (cw_seq (cS (lw_pure (pur_fieldAddr tabOk rfl rfl rfl) rfl (lw_load_b tabOk rfl rfl rfl h8 rfl rfl ?_)))); refine cC (by kernel_rfl) rfl (Name_c _ _ (by omega)) rfl ?_; rintro _ w13 ⟨⟨⟩, x12⟩; have z14 := x12.size; replace h8 := h8.ext x12; replace hP := hP.ext x12; replace X := X.ext x12; clear x12; refine lw_pure (pur_not rfl) rfl (cT ?_); refine cw_nt rfl (by assumption) ?_; refine cS (cM rfl rfl ?_); refine cC (by kernel_rfl) rfl (unexpected_c _ _ _ (by assumption)) rfl ?_; rintro _ w17 ⟨⟨⟩, ⟨h15, f16⟩⟩; have z18 := f16.size; replace h8 := h8.fr f16 (by omega); clear hP; replace X := X.fr f16 (by omega); clear f16; refine cN (cA rfl rfl (cT (cw_ret (qw_then_ret (qw_ret1 rfl rfl ?_))))); rotate_left 1
   exact ⟨rfl, by assumption, X⟩
 · rw [show nameP c.ts c.n σ = ((peekP c.ts σ).text, nextP σ) from by simp [nameP, h]]
   obtain ⟨h2, h3⟩ := peek_in hP.at_ (Or.inl (isName_ne h)); refine calls_in Tryd.func47 Tryd.ntmps47 rfl rfl ?_
   focus
    refine cS (cA rfl rfl (cN (cM rfl rfl ?_))); refine cC (by kernel_rfl) rfl (peek_c _ _ _ (by assumption)) rfl ?_; rintro _ wa2 ⟨⟨⟩, xa1⟩; have za3 := xa1.size; replace hP := hP.ext xa1; replace X := X.ext xa1; clear xa1; (refine lw_alloc' [_, _, _] zOk rfl rfl ?_; intro ba4 wa5 na6); (refine lw_init' [_, _, _] tabOk rfl rfl rfl rfl rfl rfl na6 rfl ?_; clear na6; clear wa5; intro wa7 na6); have ha8 := na6.blk; have xa9 := na6.ext; have pa10 := na6.pos; have za11 := na6.size; clear na6; replace hP := hP.ext xa9; replace X := X.ext xa9; clear xa9; refine cT (cw_seq (cS (lw_pure (pur_fieldAddr tabOk rfl rfl rfl) rfl (lw_load_b tabOk rfl rfl rfl ha8 rfl rfl ?_)))); refine cC (by kernel_rfl) rfl (Name_c _ _ (by omega)) rfl ?_; rintro _ wa13 ⟨⟨⟩, xa12⟩; have za14 := xa12.size; replace ha8 := ha8.ext xa12; replace hP := hP.ext xa12; replace X := X.ext xa12; clear xa12; refine lw_pure (pur_not rfl) rfl (cT ?_); refine cw_nf rfl (by assumption) ?_; refine cw_skip (qw_then (cS (cM rfl rfl (lw_pure (pur_nilCheck rfl) rfl (lw_pure (pur_fieldAddr tabOk rfl rfl rfl) rfl (lw_load_b tabOk rfl rfl rfl (PP.blk hP) rfl rfl ?_)))))); refine lw_pure (pur_add rfl rfl (IntWalk.i64_in _ (by omega))) rfl ?_; refine lw_pure (pur_nilCheck rfl) rfl (lw_pure (pur_fieldAddr tabOk rfl rfl rfl) rfl ?_); refine lw_pp_at tabOk rfl rfl rfl rfl (by assumption) h3 ?_; rintro wa15 ha16 fa17; have za18 := fa17.size; replace ha8 := ha8.fr fa17 (by omega); clear hP; replace X := X.fr fa17 (by omega); clear fa17; refine cN (lw_pure (pur_fieldAddr tabOk rfl rfl rfl) rfl (lw_load_b tabOk rfl rfl rfl ha8 rfl rfl (cA rfl rfl (cT (cw_ret (qw_ret1 rfl rfl ?_))))))
    rotate_left 1
   exact ⟨rfl, by assumption, X⟩
set_option maxRecDepth 100000 in
set_option maxHeartbeats 1000000 in
theorem argument_c (c : PC) (σ : PS) (w : World) (hP : PP c σ w) :
 Calls Tryd.prog 78 #[.pointer (some ⟨c.pb, 0, none⟩)] w (TreeR c w (argP c.ts c.n σ)) := by
 have X := Fr.refl (· = c.pb) w; have hpb := hP.pbB; have hB := hP.B; refine calls_in Tryd.func78 Tryd.ntmps78 rfl rfl ?_
 focus
  refine cS ?_; (refine lw_alloc' [_, _, _, _] zOk rfl rfl ?_; intro b1 w2 n3); have h5 := n3.blk; have x6 := n3.ext; have p7 := n3.pos; have z8 := n3.size; clear n3; replace hP := hP.ext x6; replace X := X.ext x6; clear x6; refine cN (cM rfl rfl ?_); refine cC (by kernel_rfl) rfl (name_c _ _ _ (by assumption)) rfl ?_; rintro _ w11 ⟨⟨⟩, ⟨h9, f10⟩⟩; have z12 := f10.size; replace h5 := h5.fr f10 (by omega); clear hP; replace X := X.fr f10 (by omega); clear f10; refine lw_pure (pur_build' [_, _, _, _] tabOk zOk rfl rfl rfl rfl) rfl ?_; (refine lw_store' [_, _, _, _] [_, _, _, _] tabOk rfl rfl rfl rfl rfl rfl h5 rfl rfl ?_; intro w13 n14); have h17 := n14.blk; have f15 := n14.fr; have z16 := n14.size; clear n14 h5; replace h9 := h9.fr f15 (by omega); replace X := X.fr f15 (by omega); clear f15; refine cT (cw_ret (qw_retc rfl tabOk rfl rfl rfl h17 rfl ?_)); rotate_left 1
 exact tree_ret sits_nil (by assumption) X
set_option maxRecDepth 100000 in
set_option maxHeartbeats 1000000 in
theorem stackExpr_c (c : PC) (σ : PS) (kind : Int) (w : World) (hP : PP c σ w) :
 Calls Tryd.prog 61 #[.pointer (some ⟨c.pb, 0, none⟩), .int .u8 kind] w (TreeR c w (.mk kind 0 (nameP c.ts c.n (expectP c.ts c.n σ [40])).1 [], expectP c.ts c.n (nameP c.ts c.n (expectP c.ts c.n σ [40])).2 [41])) := by
 have X := Fr.refl (· = c.pb) w; have hpb := hP.pbB; have hB := hP.B; refine calls_in Tryd.func61 Tryd.ntmps61 rfl rfl ?_
 focus
  refine cS ?_; (refine lw_alloc' [_, _, _, _] zOk rfl rfl ?_; intro b1 w2 n3); have h5 := n3.blk; have x6 := n3.ext; have p7 := n3.pos; have z8 := n3.size; clear n3; replace hP := hP.ext x6; replace X := X.ext x6; clear x6; refine cN (cM rfl rfl ?_); refine cC (by kernel_rfl) rfl (expect_c _ _ _ _ (by assumption) (by decide)) rfl ?_; rintro _ w11 ⟨⟨⟩, ⟨h9, f10⟩⟩; have z12 := f10.size; replace h5 := h5.fr f10 (by omega); clear hP; replace X := X.fr f10 (by omega); clear f10; refine cN (cM rfl rfl (cM rfl rfl ?_)); refine cC (by kernel_rfl) rfl (name_c _ _ _ (by assumption)) rfl ?_; rintro _ w15 ⟨⟨⟩, ⟨h13, f14⟩⟩; have z16 := f14.size; clear h9; replace h5 := h5.fr f14 (by omega); replace X := X.fr f14 (by omega); clear f14; refine lw_pure (pur_build' [_, _, _, _] tabOk zOk rfl rfl rfl rfl) rfl ?_; (refine lw_alloc' [_, _, _, _] zOk rfl rfl ?_; intro b17 w18 n19); (refine lw_init' [_, _, _, _] tabOk rfl rfl rfl rfl rfl rfl n19 rfl ?_; clear n19; clear w18; intro w20 n19); have h21 := n19.blk; have x22 := n19.ext; have p23 := n19.pos; have z24 := n19.size; clear n19; replace h13 := h13.ext x22; replace h5 := h5.ext x22; replace X := X.ext x22; clear x22; refine cN (cM rfl rfl ?_); refine cC (by kernel_rfl) rfl (expect_c _ _ _ _ (by assumption) (by decide)) rfl ?_; rintro _ w27 ⟨⟨⟩, ⟨h25, f26⟩⟩; have z28 := f26.size; replace h21 := h21.fr f26 (by omega); clear h13; replace h5 := h5.fr f26 (by omega); replace X := X.fr f26 (by omega); clear f26; refine cN (lw_loads_b' [_, _, _, _] tabOk rfl rfl rfl h21 rfl rfl rfl ?_)
  (refine lw_store' [_, _, _, _] [_, _, _, _] tabOk rfl rfl rfl rfl rfl rfl h5 rfl rfl ?_; intro w29 n30); have h33 := n30.blk; have f31 := n30.fr; have z32 := n30.size; clear n30 h5; replace h25 := h25.fr f31 (by omega); replace h21 := h21.fr f31 (by omega); replace X := X.fr f31 (by omega); clear f31; refine cT (cw_ret (qw_retc rfl tabOk rfl rfl rfl h33 rfl ?_)); rotate_left 1
 exact tree_ret sits_nil (by assumption) X
end Bk
namespace Bk
def digitsFrom (a : Nat) (s : List UInt8) : Nat := s.foldl (fun a c => a * 10 + (c.toNat - 48)) a
theorem digitsFrom_le (s : List UInt8) : ∀ a, a ≤ digitsFrom a s := by
 induction s with
 | nil => intro a; exact Nat.le_refl _
 | cons c r ih => intro a; have := ih (a * 10 + (c.toNat - 48)); simp only [digitsFrom, List.foldl_cons] at this ⊢; omega
end Bk
namespace Bk
open Go Go.RowKit Go.Proofs
attribute [local irreducible] Go.Calls
theorem parseUint_digits : ∀ (s : List UInt8) (a : Nat), a < 18446744073709551616 → (∀ c ∈ s, digit c = true) →
 (Lib.parseUint10 a s = .ok (digitsFrom a s) ∧ digitsFrom a s < 18446744073709551616) ∨ (Lib.parseUint10 a s = .range ∧ 18446744073709551616 ≤ digitsFrom a s)
 | [], a, ha, _ => Or.inl ⟨rfl, ha⟩
 | c :: r, a, ha, hd => by
  have hc := hd c List.mem_cons_self; simp only [digit, Bool.and_eq_true, decide_eq_true_eq] at hc
  have hr : ∀ x ∈ r, digit x = true := fun x hx => hd x (List.mem_cons_of_mem _ hx)
  have hle := digitsFrom_le r (a * 10 + (c.toNat - 48)); have he : digitsFrom a (c :: r) = digitsFrom (a * 10 + (c.toNat - 48)) r := rfl; rw [he]; simp only [Lib.parseUint10, hc, and_self, if_true]
  by_cases h1 : 1844674407370955162 ≤ a
  · rw [if_pos h1]; exact Or.inr ⟨rfl, by omega⟩
  · rw [if_neg h1]
    by_cases h2 : 18446744073709551616 ≤ a * 10 + (c.toNat - 48)
    · rw [if_pos h2]; exact Or.inr ⟨rfl, by omega⟩
    · rw [if_neg h2]
      exact parseUint_digits r _ (by omega) hr
theorem atoi_digits (s : List UInt8) (hs : s ≠ []) (hd : ∀ c ∈ s, digit c = true) :
 Lib.atoiAll s = if (digitsVal s : Int) ≤ 9223372036854775807 then .ok (digitsVal s) else .range := by
 cases s with
 | nil => exact absurd rfl hs
 | cons c r =>
  have hc := hd c List.mem_cons_self; simp only [digit, Bool.and_eq_true, decide_eq_true_eq] at hc
  have n45 : ¬ c.toNat = 45 := by omega
  have n43 : ¬ c.toNat = 43 := by omega
  have e : digitsVal (c :: r) = digitsFrom 0 (c :: r) := rfl; rw [e]
  have hm : Lib.parseMag (c :: r) = Lib.parseUint10 0 (c :: r) := by simp [Lib.parseMag]
  unfold Lib.atoiAll
  simp only [n45, n43, or_self, if_false, hm, not_false_eq_true, true_and, false_and]
  rcases parseUint_digits (c :: r) 0 (by omega) hd with ⟨h1, h2⟩ | ⟨h1, h2⟩
  · rw [h1]
    simp only
    by_cases h : 9223372036854775808 ≤ digitsFrom 0 (c :: r)
    · rw [if_pos h, if_neg (by omega)]
    · rw [if_neg h, if_pos (by omega)]
  · rw [h1, if_neg (by omega)]
theorem Ext.bytes (w : World) (e : TypeId) (s : ByteArray) : Ext w (Lib.bytesWorld w e s) := Lib.bytesWorld_below w e s
theorem Atoi_ok (s : List UInt8) (w : World) (hs : s ≠ []) (hd : ∀ c ∈ s, digit c = true) (hl : s.length ≤ 1000000) (h : (digitsVal s : Int) ≤ 9223372036854775807) :
 Calls Tryd.prog 57 #[str s] w fun e w' => e = .returned (.tuple #[.int .i64 (digitsVal s), .nilIface]) ∧ Ext w w' := by
 have ha := atoi_digits s hs hd; rw [if_pos h] at ha; refine (Tryd.strconv_Atoi_ok ⟨s.toArray⟩ (by rw [ba_size]; omega) (digitsVal s) (by simpa using ha) w).mono ?_; rintro e w' ⟨rfl, rfl | ⟨t, rfl⟩⟩
 · exact ⟨rfl, Ext.refl _⟩
 · exact ⟨rfl, Ext.bytes _ _ _⟩
theorem Atoi_range (s : List UInt8) (w : World) (hs : s ≠ []) (hd : ∀ c ∈ s, digit c = true) (hl : s.length ≤ 1000000) (h : ¬ (digitsVal s : Int) ≤ 9223372036854775807) (he : Errs w) :
 Calls Tryd.prog 57 #[str s] w fun e w' => ∃ te pe, e = .returned (.tuple #[.int .i64 9223372036854775807, .iface te pe]) ∧ Ext w w' := by
 have ha := atoi_digits s hs hd; rw [if_neg h] at ha; obtain ⟨te, pe, hv⟩ := he.ex; refine (Tryd.strconv_Atoi_range ⟨s.toArray⟩ (by rw [ba_size]; omega) (by simpa using ha) (.iface te pe) w hv (Or.inr ⟨te, pe, rfl⟩)).mono ?_; rintro e w' ⟨N, rfl, -, -, hb⟩
 have : Lib.atoiSat (⟨s.toArray⟩ : ByteArray).data.toList = 9223372036854775807 := by
  cases s with
  | nil => exact absurd rfl hs
  | cons c r =>
   have hc := hd c List.mem_cons_self; simp only [digit, Bool.and_eq_true, decide_eq_true_eq] at hc
   simp [Lib.atoiSat]; omega
 rw [this]
 exact ⟨_, _, rfl, hb⟩
theorem peek_tok {c : PC} {σ : PS} {w : World} (hP : PP c σ w) (h : (peekP c.ts σ).kind = 2) : (peekP c.ts σ).text ≠ [] ∧ ∀ x ∈ (peekP c.ts σ).text, digit x = true := by
 by_cases h' : σ.err ≠ 0 ∨ σ.at_ = c.ts.length
 · rw [peek_off h'] at h; simp [Tok.zero] at h
 · have hlt : σ.at_ < c.ts.length := by have : σ.at_ ≠ c.ts.length := fun e => h' (Or.inr e); have := hP.at_; omega
   rw [peek_is h' hlt] at h ⊢
   exact hP.num _ (List.getElem_mem hlt) h
set_option maxRecDepth 100000 in
set_option maxHeartbeats 1000000 in
theorem number_c (c : PC) (σ : PS) (least most : Int) (w : World) (hP : PP c σ w) (h0 : -1 ≤ least) :
 Calls Tryd.prog 48 #[.pointer (some ⟨c.pb, 0, none⟩), .int .i64 least, .int .i64 most] w fun r w' => r = .returned (.int .i64 (numberP c.ts c.n least most σ).1) ∧ PP c (numberP c.ts c.n least most σ).2 w' ∧ Fr (· = c.pb) w w' := by
 have X := Fr.refl (· = c.pb) w; have hl := hP.len; have hpl := peek_len hP; have hpb := hP.pbB; have hB := hP.B
 by_cases hk : (peekP c.ts σ).kind = 2
 · obtain ⟨h2, h3⟩ := peek_in hP.at_ (Or.inr (show (peekP c.ts σ).kind ≠ 0 by omega))
   obtain ⟨d1, d2⟩ := peek_tok hP hk
   by_cases hr : (digitsVal (peekP c.ts σ).text : Int) ≤ 9223372036854775807
   · by_cases hr2 : least ≤ (digitsVal (peekP c.ts σ).text : Int) ∧ (digitsVal (peekP c.ts σ).text : Int) ≤ most
     · obtain ⟨r1, r2⟩ := hr2
       rw [show numberP c.ts c.n least most σ = ((digitsVal (peekP c.ts σ).text : Int), nextP σ) from by simp [numberP, hk, hr, r1, r2]]; refine calls_in Tryd.func48 Tryd.ntmps48 rfl rfl ?_
       focus
        refine cS (cA rfl rfl (cN (cM rfl rfl ?_))); refine cC (by kernel_rfl) rfl (peek_c _ _ _ (by assumption)) rfl ?_; rintro _ w2 ⟨⟨⟩, x1⟩; have z3 := x1.size; replace hP := hP.ext x1; replace X := X.ext x1; clear x1; (refine lw_alloc' [_, _, _] zOk rfl rfl ?_; intro b4 w5 n6); (refine lw_init' [_, _, _] tabOk rfl rfl rfl rfl rfl rfl n6 rfl ?_; clear n6; clear w5; intro w7 n6); have h8 := n6.blk; have x9 := n6.ext; have p10 := n6.pos; have z11 := n6.size; clear n6; replace hP := hP.ext x9; replace X := X.ext x9; clear x9; refine cT (cw_seq (cS (lw_pure (pur_fieldAddr0 tabOk rfl rfl rfl) rfl (lw_load_b tabOk rfl rfl rfl h8 rfl rfl (lw_pure (pur_neq rfl rfl) rfl (cT ?_)))))); refine cw_no rfl (by omega) ?_; refine cw_skip (qw_then (cS (cM rfl rfl (lw_pure (pur_nilCheck rfl) rfl (lw_pure (pur_fieldAddr tabOk rfl rfl rfl) rfl (lw_load_b tabOk rfl rfl rfl (PP.blk hP) rfl rfl ?_)))))); refine lw_pure (pur_add rfl rfl (IntWalk.i64_in _ (by omega))) rfl ?_; refine lw_pure (pur_nilCheck rfl) rfl (lw_pure (pur_fieldAddr tabOk rfl rfl rfl) rfl ?_); refine lw_pp_at tabOk rfl rfl rfl rfl (by assumption) h3 ?_; rintro w12 h13 f14; have z15 := f14.size; replace h8 := h8.fr f14 (by omega); clear hP; replace X := X.fr f14 (by omega); clear f14; refine cN (lw_pure (pur_fieldAddr tabOk rfl rfl rfl) rfl (lw_load_b tabOk rfl rfl rfl h8 rfl rfl ?_)); refine cC (by kernel_rfl) rfl (Atoi_ok _ _ d1 d2 hpl hr) rfl ?_; rintro _ w17 ⟨⟨⟩, x16⟩; have z18 := x16.size; replace h13 := h13.ext x16; replace h8 := h8.ext x16
        replace X := X.ext x16; clear x16; refine cM rfl rfl (lw_pure (pur_extract rfl rfl) rfl (lw_pure (pur_extract rfl rfl) rfl (cA rfl rfl (cA rfl rfl (cT (cw_seq (cS (cM rfl rfl (lw_pure (pur_ifn0 tabOk rfl rfl) rfl (cM rfl rfl (lw_on rfl rfl rfl (rfl) ?_))))))))))); refine cM rfl rfl (lw_on rfl rfl rfl (rfl) (cM rfl rfl (lw_on rfl rfl rfl (rfl) (lw_pure (pur_lss rfl rfl) rfl (lw_pure (pur_pick_f rfl rfl rfl) rfl (cM rfl rfl ?_)))))); refine lw_on rfl rfl rfl (gd_ff (by omega)) ?_; refine cM rfl rfl ?_; refine lw_on rfl rfl rfl (gd_ff (by omega)) ?_; refine cM rfl rfl ?_; refine lw_on rfl rfl rfl (gd_ff (by omega)) ?_; refine lw_pure (pur_gtr rfl rfl) rfl ?_; refine lw_pure (pur_pick_no rfl rfl (by omega)) rfl ?_; refine cT ?_; refine cw_no rfl (by omega) ?_; refine cw_skip (qw_then (cS (cM rfl rfl (cA rfl rfl (cT (cw_ret (qw_ret1 rfl rfl ?_))))))); rotate_left 1
       exact ⟨rfl, by assumption, X⟩
     · rw [show numberP c.ts c.n least most σ = (0, failP (nextP σ) (peekP c.ts σ).pos 2) from by simp [numberP, hk, hr, hr2]]
       by_cases r1 : least ≤ (digitsVal (peekP c.ts σ).text : Int)
       · have r2 : most < (digitsVal (peekP c.ts σ).text : Int) := by omega
         refine calls_in Tryd.func48 Tryd.ntmps48 rfl rfl ?_
         focus
          refine cS (cA rfl rfl (cN (cM rfl rfl ?_))); refine cC (by kernel_rfl) rfl (peek_c _ _ _ (by assumption)) rfl ?_; rintro _ wa2 ⟨⟨⟩, xa1⟩; have za3 := xa1.size; replace hP := hP.ext xa1; replace X := X.ext xa1; clear xa1; (refine lw_alloc' [_, _, _] zOk rfl rfl ?_; intro ba4 wa5 na6); (refine lw_init' [_, _, _] tabOk rfl rfl rfl rfl rfl rfl na6 rfl ?_; clear na6; clear wa5; intro wa7 na6); have ha8 := na6.blk; have xa9 := na6.ext; have pa10 := na6.pos; have za11 := na6.size; clear na6; replace hP := hP.ext xa9; replace X := X.ext xa9; clear xa9; refine cT (cw_seq (cS (lw_pure (pur_fieldAddr0 tabOk rfl rfl rfl) rfl (lw_load_b tabOk rfl rfl rfl ha8 rfl rfl (lw_pure (pur_neq rfl rfl) rfl (cT ?_)))))); refine cw_no rfl (by omega) ?_; refine cw_skip (qw_then (cS (cM rfl rfl (lw_pure (pur_nilCheck rfl) rfl (lw_pure (pur_fieldAddr tabOk rfl rfl rfl) rfl (lw_load_b tabOk rfl rfl rfl (PP.blk hP) rfl rfl ?_)))))); refine lw_pure (pur_add rfl rfl (IntWalk.i64_in _ (by omega))) rfl ?_; refine lw_pure (pur_nilCheck rfl) rfl (lw_pure (pur_fieldAddr tabOk rfl rfl rfl) rfl ?_); refine lw_pp_at tabOk rfl rfl rfl rfl (by assumption) h3 ?_; rintro wa12 ha13 fa14; have za15 := fa14.size; replace ha8 := ha8.fr fa14 (by omega); clear hP; replace X := X.fr fa14 (by omega); clear fa14; refine cN (lw_pure (pur_fieldAddr tabOk rfl rfl rfl) rfl (lw_load_b tabOk rfl rfl rfl ha8 rfl rfl ?_)); refine cC (by kernel_rfl) rfl (Atoi_ok _ _ d1 d2 hpl hr) rfl ?_; rintro _ wa17 ⟨⟨⟩, xa16⟩; have za18 := xa16.size
          replace ha13 := ha13.ext xa16; replace ha8 := ha8.ext xa16; replace X := X.ext xa16; clear xa16; refine cM rfl rfl (lw_pure (pur_extract rfl rfl) rfl (lw_pure (pur_extract rfl rfl) rfl (cA rfl rfl (cA rfl rfl (cT (cw_seq (cS (cM rfl rfl (lw_pure (pur_ifn0 tabOk rfl rfl) rfl (cM rfl rfl (lw_on rfl rfl rfl (rfl) ?_))))))))))); refine cM rfl rfl (lw_on rfl rfl rfl (rfl) (cM rfl rfl (lw_on rfl rfl rfl (rfl) (lw_pure (pur_lss rfl rfl) rfl (lw_pure (pur_pick_f rfl rfl rfl) rfl (cM rfl rfl ?_)))))); refine lw_on rfl rfl rfl (gd_ff (by omega)) ?_; refine cM rfl rfl ?_; refine lw_on rfl rfl rfl (gd_ff (by omega)) ?_; refine cM rfl rfl ?_; refine lw_on rfl rfl rfl (gd_ff (by omega)) ?_; refine lw_pure (pur_gtr rfl rfl) rfl ?_; refine lw_pure (pur_pick_no rfl rfl (by omega)) rfl ?_; refine cT ?_; refine cw_yes rfl (by assumption) ?_; refine cS (cM rfl rfl (lw_pure (pur_fieldAddr tabOk rfl rfl rfl) rfl (lw_load_b tabOk rfl rfl rfl ha8 rfl rfl ?_))); refine cC (by kernel_rfl) rfl (fail_c _ _ _ _ _ (by assumption)) rfl ?_; rintro _ wa21 ⟨⟨⟩, ⟨ha19, fa20⟩⟩; have za22 := fa20.size; clear ha13; replace ha8 := ha8.fr fa20 (by omega); replace X := X.fr fa20 (by omega); clear fa20; refine cN (cA rfl rfl (cT (cw_ret (qw_then_ret (qw_ret1 rfl rfl ?_))))); rotate_left 1
         exact ⟨rfl, by assumption, X⟩
       · refine calls_in Tryd.func48 Tryd.ntmps48 rfl rfl ?_
         focus
          refine cS (cA rfl rfl (cN (cM rfl rfl ?_))); refine cC (by kernel_rfl) rfl (peek_c _ _ _ (by assumption)) rfl ?_; rintro _ wb2 ⟨⟨⟩, xb1⟩; have zb3 := xb1.size; replace hP := hP.ext xb1; replace X := X.ext xb1; clear xb1; (refine lw_alloc' [_, _, _] zOk rfl rfl ?_; intro bb4 wb5 nb6); (refine lw_init' [_, _, _] tabOk rfl rfl rfl rfl rfl rfl nb6 rfl ?_; clear nb6; clear wb5; intro wb7 nb6); have hb8 := nb6.blk; have xb9 := nb6.ext; have pb10 := nb6.pos; have zb11 := nb6.size; clear nb6; replace hP := hP.ext xb9; replace X := X.ext xb9; clear xb9; refine cT (cw_seq (cS (lw_pure (pur_fieldAddr0 tabOk rfl rfl rfl) rfl (lw_load_b tabOk rfl rfl rfl hb8 rfl rfl (lw_pure (pur_neq rfl rfl) rfl (cT ?_)))))); refine cw_no rfl (by omega) ?_; refine cw_skip (qw_then (cS (cM rfl rfl (lw_pure (pur_nilCheck rfl) rfl (lw_pure (pur_fieldAddr tabOk rfl rfl rfl) rfl (lw_load_b tabOk rfl rfl rfl (PP.blk hP) rfl rfl ?_)))))); refine lw_pure (pur_add rfl rfl (IntWalk.i64_in _ (by omega))) rfl ?_; refine lw_pure (pur_nilCheck rfl) rfl (lw_pure (pur_fieldAddr tabOk rfl rfl rfl) rfl ?_); refine lw_pp_at tabOk rfl rfl rfl rfl (by assumption) h3 ?_; rintro wb12 hb13 fb14; have zb15 := fb14.size; replace hb8 := hb8.fr fb14 (by omega); clear hP; replace X := X.fr fb14 (by omega); clear fb14; refine cN (lw_pure (pur_fieldAddr tabOk rfl rfl rfl) rfl (lw_load_b tabOk rfl rfl rfl hb8 rfl rfl ?_)); refine cC (by kernel_rfl) rfl (Atoi_ok _ _ d1 d2 hpl hr) rfl ?_; rintro _ wb17 ⟨⟨⟩, xb16⟩; have zb18 := xb16.size
          replace hb13 := hb13.ext xb16; replace hb8 := hb8.ext xb16; replace X := X.ext xb16; clear xb16; refine cM rfl rfl (lw_pure (pur_extract rfl rfl) rfl (lw_pure (pur_extract rfl rfl) rfl (cA rfl rfl (cA rfl rfl (cT (cw_seq (cS (cM rfl rfl (lw_pure (pur_ifn0 tabOk rfl rfl) rfl (cM rfl rfl (lw_on rfl rfl rfl (rfl) ?_))))))))))); refine cM rfl rfl (lw_on rfl rfl rfl (rfl) (cM rfl rfl (lw_on rfl rfl rfl (rfl) (lw_pure (pur_lss rfl rfl) rfl (lw_pure (pur_pick_f rfl rfl rfl) rfl (cM rfl rfl ?_)))))); refine lw_off rfl rfl rfl (gd_ft (by omega)) rfl ?_; refine lw_off rfl rfl rfl (gd_ft (by omega)) rfl ?_; refine lw_off rfl rfl rfl (gd_ft (by omega)) rfl ?_; refine lw_pure (pur_pick_yes rfl rfl (by omega)) rfl ?_; refine cT (cw_cond_t rfl (cS (cM rfl rfl (lw_pure (pur_fieldAddr tabOk rfl rfl rfl) rfl (lw_load_b tabOk rfl rfl rfl hb8 rfl rfl ?_))))); refine cC (by kernel_rfl) rfl (fail_c _ _ _ _ _ (by assumption)) rfl ?_; rintro _ wb21 ⟨⟨⟩, ⟨hb19, fb20⟩⟩; have zb22 := fb20.size; clear hb13; replace hb8 := hb8.fr fb20 (by omega); replace X := X.fr fb20 (by omega); clear fb20; refine cN (cA rfl rfl (cT (cw_ret (qw_then_ret (qw_ret1 rfl rfl ?_))))); rotate_left 1
         exact ⟨rfl, by assumption, X⟩
   · rw [show numberP c.ts c.n least most σ = (0, failP (nextP σ) (peekP c.ts σ).pos 2) from by simp [numberP, hk, hr]]
     refine calls_in Tryd.func48 Tryd.ntmps48 rfl rfl ?_
     focus
      refine cS (cA rfl rfl (cN (cM rfl rfl ?_))); refine cC (by kernel_rfl) rfl (peek_c _ _ _ (by assumption)) rfl ?_; rintro _ wc2 ⟨⟨⟩, xc1⟩; have zc3 := xc1.size; replace hP := hP.ext xc1; replace X := X.ext xc1; clear xc1; (refine lw_alloc' [_, _, _] zOk rfl rfl ?_; intro bc4 wc5 nc6); (refine lw_init' [_, _, _] tabOk rfl rfl rfl rfl rfl rfl nc6 rfl ?_; clear nc6; clear wc5; intro wc7 nc6); have hc8 := nc6.blk; have xc9 := nc6.ext; have pc10 := nc6.pos; have zc11 := nc6.size; clear nc6; replace hP := hP.ext xc9; replace X := X.ext xc9; clear xc9; refine cT (cw_seq (cS (lw_pure (pur_fieldAddr0 tabOk rfl rfl rfl) rfl (lw_load_b tabOk rfl rfl rfl hc8 rfl rfl (lw_pure (pur_neq rfl rfl) rfl (cT ?_)))))); refine cw_no rfl (by omega) ?_; refine cw_skip (qw_then (cS (cM rfl rfl (lw_pure (pur_nilCheck rfl) rfl (lw_pure (pur_fieldAddr tabOk rfl rfl rfl) rfl (lw_load_b tabOk rfl rfl rfl (PP.blk hP) rfl rfl ?_)))))); refine lw_pure (pur_add rfl rfl (IntWalk.i64_in _ (by omega))) rfl ?_; refine lw_pure (pur_nilCheck rfl) rfl (lw_pure (pur_fieldAddr tabOk rfl rfl rfl) rfl ?_); refine lw_pp_at tabOk rfl rfl rfl rfl (by assumption) h3 ?_; rintro wc12 hc13 fc14; have zc15 := fc14.size; replace hc8 := hc8.fr fc14 (by omega); clear hP; replace X := X.fr fc14 (by omega); clear fc14; refine cN (lw_pure (pur_fieldAddr tabOk rfl rfl rfl) rfl (lw_load_b tabOk rfl rfl rfl hc8 rfl rfl ?_)); refine lw_does (does_call (by kernel_rfl) rfl (Atoi_range _ _ d1 d2 hpl hr (PP.errs (by assumption))) (fun _ _ ⟨_, _, h⟩ => ⟨_, h.1⟩)) rfl ?_ (fun _ h => h)
      rintro _ wc19 ⟨tec16, ⟨pec17, ⟨⟨⟩, xc18⟩⟩⟩; have zc20 := xc18.size; replace hc13 := hc13.ext xc18; replace hc8 := hc8.ext xc18; replace X := X.ext xc18; clear xc18; refine cM rfl rfl (lw_pure (pur_extract rfl rfl) rfl (lw_pure (pur_extract rfl rfl) rfl (cA rfl rfl (cA rfl rfl (cT (cw_seq (cS (cM rfl rfl (lw_pure (pur_ifn1 tabOk rfl rfl) rfl (cM rfl rfl (lw_off rfl rfl rfl (rfl) rfl ?_))))))))))); refine lw_off rfl rfl rfl (rfl) rfl (lw_off rfl rfl rfl (rfl) rfl (lw_pure (pur_pick_t rfl rfl rfl) rfl (cM rfl rfl (lw_off rfl rfl rfl (rfl) rfl (lw_off rfl rfl rfl (rfl) rfl (lw_off rfl rfl rfl (rfl) rfl (lw_pure (pur_pick_t rfl rfl rfl) rfl (cT (cw_cond_t rfl (cS (cM rfl rfl ?_))))))))))); refine lw_pure (pur_fieldAddr tabOk rfl rfl rfl) rfl (lw_load_b tabOk rfl rfl rfl hc8 rfl rfl ?_); refine cC (by kernel_rfl) rfl (fail_c _ _ _ _ _ (by assumption)) rfl ?_; rintro _ wc23 ⟨⟨⟩, ⟨hc21, fc22⟩⟩; have zc24 := fc22.size; clear hc13; replace hc8 := hc8.fr fc22 (by omega); replace X := X.fr fc22 (by omega); clear fc22; refine cN (cA rfl rfl (cT (cw_ret (qw_then_ret (qw_ret1 rfl rfl ?_))))); rotate_left 1
     exact ⟨rfl, by assumption, X⟩
 · rw [show numberP c.ts c.n least most σ = (0, unexpP c.ts c.n σ) from by simp [numberP, hk]]
   refine calls_in Tryd.func48 Tryd.ntmps48 rfl rfl ?_
   focus
    refine cS (cA rfl rfl (cN (cM rfl rfl ?_))); refine cC (by kernel_rfl) rfl (peek_c _ _ _ (by assumption)) rfl ?_; rintro _ wd2 ⟨⟨⟩, xd1⟩; have zd3 := xd1.size; replace hP := hP.ext xd1; replace X := X.ext xd1; clear xd1; (refine lw_alloc' [_, _, _] zOk rfl rfl ?_; intro bd4 wd5 nd6); (refine lw_init' [_, _, _] tabOk rfl rfl rfl rfl rfl rfl nd6 rfl ?_; clear nd6; clear wd5; intro wd7 nd6); have hd8 := nd6.blk; have xd9 := nd6.ext; have pd10 := nd6.pos; have zd11 := nd6.size; clear nd6; replace hP := hP.ext xd9; replace X := X.ext xd9; clear xd9; refine cT (cw_seq (cS (lw_pure (pur_fieldAddr0 tabOk rfl rfl rfl) rfl (lw_load_b tabOk rfl rfl rfl hd8 rfl rfl (lw_pure (pur_neq rfl rfl) rfl (cT ?_)))))); refine cw_yes rfl (by assumption) ?_; refine cS (cM rfl rfl ?_); refine cC (by kernel_rfl) rfl (unexpected_c _ _ _ (by assumption)) rfl ?_; rintro _ wd14 ⟨⟨⟩, ⟨hd12, fd13⟩⟩; have zd15 := fd13.size; replace hd8 := hd8.fr fd13 (by omega); clear hP; replace X := X.fr fd13 (by omega); clear fd13; refine cN (cA rfl rfl (cT (cw_ret (qw_then_ret (qw_ret1 rfl rfl ?_))))); rotate_left 1
   exact ⟨rfl, by assumption, X⟩
end Bk
namespace Bk
open Go Go.RowKit Go.Proofs
attribute [local irreducible] Go.Calls
def ExprC (c : PC) (k : Nat) : Prop := ∀ (lv : Int) (σ : PS) (w : World), PP c σ w → 4 * mS c.ts σ + 4 ≤ k → 1 ≤ lv → lv ≤ 9 →
 Calls Tryd.prog 27 #[.pointer (some ⟨c.pb, 0, none⟩), .int .i64 lv] w (TreeR c w (exprP c.ts c.n k lv σ))
def UnaryC (c : PC) (k : Nat) : Prop := ∀ (σ : PS) (w : World), PP c σ w → 4 * mS c.ts σ + 3 ≤ k →
 Calls Tryd.prog 44 #[.pointer (some ⟨c.pb, 0, none⟩)] w (TreeR c w (unaryP c.ts c.n k σ))
def PrimaryC (c : PC) (k : Nat) : Prop := ∀ (σ : PS) (w : World), PP c σ w → 4 * mS c.ts σ + 2 ≤ k →
 Calls Tryd.prog 53 #[.pointer (some ⟨c.pb, 0, none⟩)] w (TreeR c w (primaryP c.ts c.n k σ))
def PlaceC (c : PC) (k : Nat) : Prop := ∀ (σ : PS) (w : World), PP c σ w → 4 * mS c.ts σ + 1 ≤ k →
 Calls Tryd.prog 62 #[.pointer (some ⟨c.pb, 0, none⟩)] w (TreeR c w (placeP c.ts c.n k σ))
structure ExprsC (c : PC) (k : Nat) : Prop where
 expr : ExprC c k
 unary : UnaryC c k
 primary : PrimaryC c k
 place : PlaceC c k
theorem mS_has {c : PC} {σ : PS} {t : List UInt8} (h : σ.at_ ≤ c.ts.length) (hh : hasP c.ts σ t = true) (ht : t ≠ []) : mS c.ts (nextP σ) + 1 = mS c.ts σ := mS_next (has_in h hh ht)
set_option maxRecDepth 100000 in
set_option maxHeartbeats 1000000 in
theorem place_w (c : PC) (k : Nat) (IH : ∀ j, j ≤ k → ExprsC c j) : PlaceC c (k + 1) := by
 intro σ w hP hk; have X := Fr.refl (· = c.pb) w; have hpb := hP.pbB; have hB := hP.B; have hn := name_le (n := c.n) hP.at_
 cases hh : hasP c.ts (nameP c.ts c.n σ).2 [91]
 · rw [show placeP c.ts c.n (k + 1) σ = (.mk 2 0 (nameP c.ts c.n σ).1 [], (nameP c.ts c.n σ).2) from by rw [placeP]; simp [hh]]
   refine calls_in Tryd.func62 Tryd.ntmps62 rfl rfl ?_
   focus
    refine cS ?_; (refine lw_alloc' [_, _, _, _] zOk rfl rfl ?_; intro b1 w2 n3); have h5 := n3.blk; have x6 := n3.ext; have p7 := n3.pos; have z8 := n3.size; clear n3; replace hP := hP.ext x6; replace X := X.ext x6; clear x6; refine cN (cM rfl rfl ?_); refine cC (by kernel_rfl) rfl (name_c _ _ _ (by assumption)) rfl ?_; rintro _ w11 ⟨⟨⟩, ⟨h9, f10⟩⟩; have z12 := f10.size; replace h5 := h5.fr f10 (by omega); clear hP; replace X := X.fr f10 (by omega); clear f10; refine cA rfl rfl (cT (cw_seq (cS (cM rfl rfl ?_)))); refine cC (by kernel_rfl) rfl (accept_f _ _ _ _ (by assumption) (by decide) (by assumption)) rfl ?_; rintro _ w15 ⟨⟨⟩, ⟨h13, f14⟩⟩; have z16 := f14.size; clear h9; replace h5 := h5.fr f14 (by omega); replace X := X.fr f14 (by omega); clear f14; refine lw_pure (pur_not rfl) rfl (cT (cw_cond_t rfl (cS (cM rfl rfl (lw_pure (pur_build' [_, _, _, _] tabOk zOk rfl rfl rfl rfl) rfl ?_))))); (refine lw_store' [_, _, _, _] [_, _, _, _] tabOk rfl rfl rfl rfl rfl rfl h5 rfl rfl ?_; intro w17 n18); have h21 := n18.blk; have f19 := n18.fr; have z20 := n18.size; clear n18 h5; replace h13 := h13.fr f19 (by omega); replace X := X.fr f19 (by omega); clear f19; refine cT (cw_ret (qw_then_ret (qw_retc rfl tabOk rfl rfl rfl h21 rfl ?_))); rotate_left 1
   exact tree_ret sits_nil (by assumption) X
 · rw [show placeP c.ts c.n (k + 1) σ = (.mk 3 0 (nameP c.ts c.n σ).1 [(exprP c.ts c.n k 1 (nextP (nameP c.ts c.n σ).2)).1], expectP c.ts c.n (exprP c.ts c.n k 1 (nextP (nameP c.ts c.n σ).2)).2 [93]) from by rw [placeP]; simp [hh]]
   have hm := mS_has hn.wf hh (by decide); have hm2 := mS_le hn
   have hf : 4 * mS c.ts (nextP (nameP c.ts c.n σ).2) + 4 ≤ k := by omega
   refine calls_in Tryd.func62 Tryd.ntmps62 rfl rfl ?_
   focus
    refine cS ?_; (refine lw_alloc' [_, _, _, _] zOk rfl rfl ?_; intro ba1 wa2 na3); have ha5 := na3.blk; have xa6 := na3.ext; have pa7 := na3.pos; have za8 := na3.size; clear na3; replace hP := hP.ext xa6; replace X := X.ext xa6; clear xa6; refine cN (cM rfl rfl ?_); refine cC (by kernel_rfl) rfl (name_c _ _ _ (by assumption)) rfl ?_; rintro _ wa11 ⟨⟨⟩, ⟨ha9, fa10⟩⟩; have za12 := fa10.size; replace ha5 := ha5.fr fa10 (by omega); clear hP; replace X := X.fr fa10 (by omega); clear fa10; refine cA rfl rfl (cT (cw_seq (cS (cM rfl rfl ?_)))); refine cC (by kernel_rfl) rfl (accept_t _ _ _ _ (by assumption) (by decide) (by assumption)) rfl ?_; rintro _ wa15 ⟨⟨⟩, ⟨ha13, fa14⟩⟩; have za16 := fa14.size; clear ha9; replace ha5 := ha5.fr fa14 (by omega); replace X := X.fr fa14 (by omega); clear fa14; refine lw_pure (pur_not rfl) rfl (cT (cw_cond_f rfl (cw_skip (qw_then (cS (cM rfl rfl ?_)))))); refine cR (by kernel_rfl) rfl ((IH k (Nat.le_refl _)).expr _ _ _ (by assumption) hf (by decide) (by decide)) (fun _ _ h => h.ret) rfl ?_; rintro _ wa22 ⟨aa17, ⟨ka18, ⟨⟨⟩, ⟨ha19, ⟨ha20, fa21⟩⟩⟩⟩⟩; have za23 := fa21.size; clear ha13; replace ha5 := ha5.fr fa21 (by omega); replace X := X.fr fa21 (by omega); clear fa21; (refine lw_alloc' [_, _, _, _] zOk rfl rfl ?_; intro ba24 wa25 na26); (refine lw_init' [_, _, _, _] tabOk rfl rfl rfl rfl rfl rfl na26 rfl ?_; clear na26; clear wa25; intro wa27 na26); have ha28 := na26.blk; have xa29 := na26.ext; have pa30 := na26.pos; have za31 := na26.size; clear na26
    replace ha19 := Nd.sits.ext ha19 xa29; replace ha20 := ha20.ext xa29; replace ha5 := ha5.ext xa29; replace X := X.ext xa29; clear xa29; refine cN (cM rfl rfl ?_); refine cC (by kernel_rfl) rfl (expect_c _ _ _ _ (by assumption) (by decide)) rfl ?_; rintro _ wa34 ⟨⟨⟩, ⟨ha32, fa33⟩⟩; have za35 := fa33.size; replace ha28 := ha28.fr fa33 (by omega); replace ha19 := Nd.sits.fr ha19 fa33 (by omega); clear ha20; replace ha5 := ha5.fr fa33 (by omega); replace X := X.fr fa33 (by omega); clear fa33; refine cN (cM rfl rfl (lw_loads_b' [_, _, _, _] tabOk rfl rfl rfl ha28 rfl rfl rfl ?_)); (refine lw_does (does_slice' [_, _, _, _] tabOk zOk rfl rfl rfl rfl rfl rfl rfl rfl rfl) rfl ?_ (fun _ h => h); rintro _ wa37 ⟨ba36, rfl, na38, ta39⟩); clear ta39; have ha40 := na38.blk; have xa41 := na38.ext; have pa42 := na38.pos; have za43 := na38.size; clear na38; replace ha32 := ha32.ext xa41; replace ha28 := ha28.ext xa41; replace ha19 := Nd.sits.ext ha19 xa41; replace ha5 := ha5.ext xa41; replace X := X.ext xa41; clear xa41; refine lw_pure (pur_build' [_, _, _, _] tabOk zOk rfl rfl rfl rfl) rfl ?_; (refine lw_store' [_, _, _, _] [_, _, _, _] tabOk rfl rfl rfl rfl rfl rfl ha5 rfl rfl ?_; intro wa44 na45); have ha48 := na45.blk; have fa46 := na45.fr; have za47 := na45.size; clear na45 ha5; replace ha40 := ha40.fr fa46 (by omega); replace ha32 := ha32.fr fa46 (by omega); replace ha28 := ha28.fr fa46 (by omega); replace ha19 := Nd.sits.fr ha19 fa46 (by omega); replace X := X.fr fa46 (by omega); clear fa46
    refine cT (cw_ret (qw_retc rfl tabOk rfl rfl rfl ha48 rfl ?_)); rotate_left 1
   exact tree_ret (sits_1 (by assumption) (by omega) (by assumption) (fun b h => by omega)) (by assumption) X
set_option maxRecDepth 100000 in
set_option maxHeartbeats 1000000 in
theorem primary_w (c : PC) (k : Nat) (IH : ∀ j, j ≤ k → ExprsC c j) : PrimaryC c (k + 1) := by
 intro σ w hP hk; have X := Fr.refl (· = c.pb) w; have hpb := hP.pbB; have hB := hP.B
 by_cases h2 : (peekP c.ts σ).kind = 2
 · rw [show primaryP c.ts c.n (k + 1) σ = (.mk 1 (numberP c.ts c.n 0 9223372036854775807 σ).1 [] [], (numberP c.ts c.n 0 9223372036854775807 σ).2) from by rw [primaryP]; simp [h2]]
   refine calls_in Tryd.func53 Tryd.ntmps53 rfl rfl ?_
   focus
    refine cS ?_; (refine lw_alloc' [_, _, _, _] zOk rfl rfl ?_; intro b1 w2 n3); have h5 := n3.blk; have x6 := n3.ext; have p7 := n3.pos; have z8 := n3.size; clear n3; replace hP := hP.ext x6; replace X := X.ext x6; clear x6; refine cT (cw_seq (cw_block (cS (cM rfl rfl ?_)))); refine cC (by kernel_rfl) rfl (peek_c _ _ _ (by assumption)) rfl ?_; rintro _ w10 ⟨⟨⟩, x9⟩; have z11 := x9.size; replace h5 := h5.ext x9; replace hP := hP.ext x9; replace X := X.ext x9; clear x9; refine lw_pure (pur_field tabOk rfl rfl rfl rfl rfl rfl) rfl (lw_pure (pur_eql rfl rfl) rfl (cA rfl rfl (cT ?_))); refine cw_yes rfl (by assumption) ?_; refine cS (cM rfl rfl ?_); refine cC (by kernel_rfl) rfl (number_c _ _ _ _ _ (by assumption) (by decide)) rfl ?_; rintro _ w14 ⟨⟨⟩, ⟨h12, f13⟩⟩; have z15 := f13.size; replace h5 := h5.fr f13 (by omega); clear hP; replace X := X.fr f13 (by omega); clear f13; refine lw_pure (pur_build' [_, _, _, _] tabOk zOk rfl rfl rfl rfl) rfl ?_; (refine lw_store' [_, _, _, _] [_, _, _, _] tabOk rfl rfl rfl rfl rfl rfl h5 rfl rfl ?_; intro w16 n17); have h20 := n17.blk; have f18 := n17.fr; have z19 := n17.size; clear n17 h5; replace h12 := h12.fr f18 (by omega); replace X := X.fr f18 (by omega); clear f18; refine cT (cw_ret (qw_block_ret (qw_then_ret (qw_retc rfl tabOk rfl rfl rfl h20 rfl ?_)))); rotate_left 1
   exact tree_ret sits_nil (by assumption) X
 cases ht : hasP c.ts σ [116, 111, 112]
 case true =>
  rw [show primaryP c.ts c.n (k + 1) σ = (.mk 4 0 (nameP c.ts c.n (expectP c.ts c.n (nextP σ) [40])).1 [], expectP c.ts c.n (nameP c.ts c.n (expectP c.ts c.n (nextP σ) [40])).2 [41]) from by rw [primaryP]; simp [h2, ht]]; refine calls_in Tryd.func53 Tryd.ntmps53 rfl rfl ?_
  focus
   refine cS ?_; (refine lw_alloc' [_, _, _, _] zOk rfl rfl ?_; intro ba1 wa2 na3); have ha5 := na3.blk; have xa6 := na3.ext; have pa7 := na3.pos; have za8 := na3.size; clear na3; replace hP := hP.ext xa6; replace X := X.ext xa6; clear xa6; refine cT (cw_seq (cw_block (cS (cM rfl rfl ?_)))); refine cC (by kernel_rfl) rfl (peek_c _ _ _ (by assumption)) rfl ?_; rintro _ wa10 ⟨⟨⟩, xa9⟩; have za11 := xa9.size; replace ha5 := ha5.ext xa9; replace hP := hP.ext xa9; replace X := X.ext xa9; clear xa9; refine lw_pure (pur_field tabOk rfl rfl rfl rfl rfl rfl) rfl (lw_pure (pur_eql rfl rfl) rfl (cA rfl rfl (cT ?_))); refine cw_no rfl (by assumption) ?_; refine cS (cM rfl rfl ?_); refine cC (by kernel_rfl) rfl (accept_t _ _ _ _ (by assumption) (by decide) (by assumption)) rfl ?_; rintro _ wa14 ⟨⟨⟩, ⟨ha12, fa13⟩⟩; have za15 := fa13.size; replace ha5 := ha5.fr fa13 (by omega); clear hP; replace X := X.fr fa13 (by omega); clear fa13; refine cA rfl rfl (cT (cw_cond_t rfl (cS (cM rfl rfl ?_)))); refine cR (by kernel_rfl) rfl (stackExpr_c _ _ _ _ (by assumption)) (fun _ _ h => h.ret) rfl ?_; rintro _ wa21 ⟨aa16, ⟨ka17, ⟨⟨⟩, ⟨ha18, ⟨ha19, fa20⟩⟩⟩⟩⟩; have za22 := fa20.size; clear ha12; replace ha5 := ha5.fr fa20 (by omega); replace X := X.fr fa20 (by omega); clear fa20; (refine lw_store' [_, _, _, _] [_, _, _, _] tabOk rfl rfl rfl rfl rfl rfl ha5 rfl rfl ?_; intro wa23 na24); have ha27 := na24.blk; have fa25 := na24.fr; have za26 := na24.size; clear na24 ha5; replace ha18 := Nd.sits.fr ha18 fa25 (by omega)
   replace ha19 := ha19.fr fa25 (by omega); replace X := X.fr fa25 (by omega); clear fa25; refine cT (cw_ret (qw_block_ret (qw_then_ret (qw_retc rfl tabOk rfl rfl rfl ha27 rfl ?_)))); rotate_left 1
  exact tree_ret sits_nil (by assumption) X
 cases hs : hasP c.ts σ [115, 105, 122, 101]
 case true =>
  rw [show primaryP c.ts c.n (k + 1) σ = (.mk 5 0 (nameP c.ts c.n (expectP c.ts c.n (nextP σ) [40])).1 [], expectP c.ts c.n (nameP c.ts c.n (expectP c.ts c.n (nextP σ) [40])).2 [41]) from by rw [primaryP]; simp [h2, ht, hs]]; refine calls_in Tryd.func53 Tryd.ntmps53 rfl rfl ?_
  focus
   refine cS ?_; (refine lw_alloc' [_, _, _, _] zOk rfl rfl ?_; intro bb1 wb2 nb3); have hb5 := nb3.blk; have xb6 := nb3.ext; have pb7 := nb3.pos; have zb8 := nb3.size; clear nb3; replace hP := hP.ext xb6; replace X := X.ext xb6; clear xb6; refine cT (cw_seq (cw_block (cS (cM rfl rfl ?_)))); refine cC (by kernel_rfl) rfl (peek_c _ _ _ (by assumption)) rfl ?_; rintro _ wb10 ⟨⟨⟩, xb9⟩; have zb11 := xb9.size; replace hb5 := hb5.ext xb9; replace hP := hP.ext xb9; replace X := X.ext xb9; clear xb9; refine lw_pure (pur_field tabOk rfl rfl rfl rfl rfl rfl) rfl (lw_pure (pur_eql rfl rfl) rfl (cA rfl rfl (cT ?_))); refine cw_no rfl (by assumption) ?_; refine cS (cM rfl rfl ?_); refine cC (by kernel_rfl) rfl (accept_f _ _ _ _ (by assumption) (by decide) (by assumption)) rfl ?_; rintro _ wb14 ⟨⟨⟩, ⟨hb12, fb13⟩⟩; have zb15 := fb13.size; replace hb5 := hb5.fr fb13 (by omega); clear hP; replace X := X.fr fb13 (by omega); clear fb13; refine cA rfl rfl (cT (cw_cond_f rfl (cS (cM rfl rfl ?_)))); refine cC (by kernel_rfl) rfl (accept_t _ _ _ _ (by assumption) (by decide) (by assumption)) rfl ?_; rintro _ wb18 ⟨⟨⟩, ⟨hb16, fb17⟩⟩; have zb19 := fb17.size; clear hb12; replace hb5 := hb5.fr fb17 (by omega); replace X := X.fr fb17 (by omega); clear fb17; refine cA rfl rfl (cT (cw_cond_t rfl (cS (cM rfl rfl ?_)))); refine cR (by kernel_rfl) rfl (stackExpr_c _ _ _ _ (by assumption)) (fun _ _ h => h.ret) rfl ?_; rintro _ wb25 ⟨ab20, ⟨kb21, ⟨⟨⟩, ⟨hb22, ⟨hb23, fb24⟩⟩⟩⟩⟩; have zb26 := fb24.size; clear hb16
   replace hb5 := hb5.fr fb24 (by omega); replace X := X.fr fb24 (by omega); clear fb24; (refine lw_store' [_, _, _, _] [_, _, _, _] tabOk rfl rfl rfl rfl rfl rfl hb5 rfl rfl ?_; intro wb27 nb28); have hb31 := nb28.blk; have fb29 := nb28.fr; have zb30 := nb28.size; clear nb28 hb5; replace hb22 := Nd.sits.fr hb22 fb29 (by omega); replace hb23 := hb23.fr fb29 (by omega); replace X := X.fr fb29 (by omega); clear fb29; refine cT (cw_ret (qw_block_ret (qw_then_ret (qw_retc rfl tabOk rfl rfl rfl hb31 rfl ?_)))); rotate_left 1
  exact tree_ret sits_nil (by assumption) X
 cases hp : hasP c.ts σ [40]
 case true =>
  rw [show primaryP c.ts c.n (k + 1) σ = ((exprP c.ts c.n k 1 (nextP σ)).1, expectP c.ts c.n (exprP c.ts c.n k 1 (nextP σ)).2 [41]) from by rw [primaryP]; simp [h2, ht, hs, hp]]; have hm := mS_has hP.at_ hp (by decide)
  have hf : 4 * mS c.ts (nextP σ) + 4 ≤ k := by omega
  refine calls_in Tryd.func53 Tryd.ntmps53 rfl rfl ?_
  focus
   refine cS ?_; (refine lw_alloc' [_, _, _, _] zOk rfl rfl ?_; intro bc1 wc2 nc3); have hc5 := nc3.blk; have xc6 := nc3.ext; have pc7 := nc3.pos; have zc8 := nc3.size; clear nc3; replace hP := hP.ext xc6; replace X := X.ext xc6; clear xc6; refine cT (cw_seq (cw_block (cS (cM rfl rfl ?_)))); refine cC (by kernel_rfl) rfl (peek_c _ _ _ (by assumption)) rfl ?_; rintro _ wc10 ⟨⟨⟩, xc9⟩; have zc11 := xc9.size; replace hc5 := hc5.ext xc9; replace hP := hP.ext xc9; replace X := X.ext xc9; clear xc9; refine lw_pure (pur_field tabOk rfl rfl rfl rfl rfl rfl) rfl (lw_pure (pur_eql rfl rfl) rfl (cA rfl rfl (cT ?_))); refine cw_no rfl (by assumption) ?_; refine cS (cM rfl rfl ?_); refine cC (by kernel_rfl) rfl (accept_f _ _ _ _ (by assumption) (by decide) (by assumption)) rfl ?_; rintro _ wc14 ⟨⟨⟩, ⟨hc12, fc13⟩⟩; have zc15 := fc13.size; replace hc5 := hc5.fr fc13 (by omega); clear hP; replace X := X.fr fc13 (by omega); clear fc13; refine cA rfl rfl (cT (cw_cond_f rfl (cS (cM rfl rfl ?_)))); refine cC (by kernel_rfl) rfl (accept_f _ _ _ _ (by assumption) (by decide) (by assumption)) rfl ?_; rintro _ wc18 ⟨⟨⟩, ⟨hc16, fc17⟩⟩; have zc19 := fc17.size; clear hc12; replace hc5 := hc5.fr fc17 (by omega); replace X := X.fr fc17 (by omega); clear fc17; refine cA rfl rfl (cT (cw_cond_f rfl (cS (cM rfl rfl ?_)))); refine cC (by kernel_rfl) rfl (accept_t _ _ _ _ (by assumption) (by decide) (by assumption)) rfl ?_; rintro _ wc22 ⟨⟨⟩, ⟨hc20, fc21⟩⟩; have zc23 := fc21.size; clear hc16; replace hc5 := hc5.fr fc21 (by omega)
   replace X := X.fr fc21 (by omega); clear fc21; refine cA rfl rfl (cT (cw_cond_t rfl (cS (cM rfl rfl ?_)))); refine cR (by kernel_rfl) rfl ((IH k (Nat.le_refl _)).expr _ _ _ (by assumption) hf (by decide) (by decide)) (fun _ _ h => h.ret) rfl ?_; rintro _ wc29 ⟨ac24, ⟨kc25, ⟨⟨⟩, ⟨hc26, ⟨hc27, fc28⟩⟩⟩⟩⟩; have zc30 := fc28.size; clear hc20; replace hc5 := hc5.fr fc28 (by omega); replace X := X.fr fc28 (by omega); clear fc28; (refine lw_alloc' [_, _, _, _] zOk rfl rfl ?_; intro bc31 wc32 nc33); (refine lw_init' [_, _, _, _] tabOk rfl rfl rfl rfl rfl rfl nc33 rfl ?_; clear nc33; clear wc32; intro wc34 nc33); have hc35 := nc33.blk; have xc36 := nc33.ext; have pc37 := nc33.pos; have zc38 := nc33.size; clear nc33; replace hc26 := Nd.sits.ext hc26 xc36; replace hc27 := hc27.ext xc36; replace hc5 := hc5.ext xc36; replace X := X.ext xc36; clear xc36; refine cN (cM rfl rfl ?_); refine cC (by kernel_rfl) rfl (expect_c _ _ _ _ (by assumption) (by decide)) rfl ?_; rintro _ wc41 ⟨⟨⟩, ⟨hc39, fc40⟩⟩; have zc42 := fc40.size; replace hc35 := hc35.fr fc40 (by omega); replace hc26 := Nd.sits.fr hc26 fc40 (by omega); clear hc27; replace hc5 := hc5.fr fc40 (by omega); replace X := X.fr fc40 (by omega); clear fc40; refine cN (lw_loads_b' [_, _, _, _] tabOk rfl rfl rfl hc35 rfl rfl rfl ?_); (refine lw_store' [_, _, _, _] [_, _, _, _] tabOk rfl rfl rfl rfl rfl rfl hc5 rfl rfl ?_; intro wc43 nc44); have hc47 := nc44.blk; have fc45 := nc44.fr; have zc46 := nc44.size; clear nc44 hc5; replace hc39 := hc39.fr fc45 (by omega)
   replace hc35 := hc35.fr fc45 (by omega); replace hc26 := Nd.sits.fr hc26 fc45 (by omega); replace X := X.fr fc45 (by omega); clear fc45; refine cT (cw_ret (qw_block_ret (qw_then_ret (qw_retc rfl tabOk rfl rfl rfl hc47 rfl ?_)))); rotate_left 1
  exact tree_ret (Nd.sits.wide (by assumption) (fun b h => by omega)) (by assumption) X
 · rw [show primaryP c.ts c.n (k + 1) σ = placeP c.ts c.n k σ from by rw [primaryP]; simp [h2, ht, hs, hp]]
   have hf : 4 * mS c.ts σ + 1 ≤ k := by omega
   refine calls_in Tryd.func53 Tryd.ntmps53 rfl rfl ?_
   focus
    refine cS ?_; (refine lw_alloc' [_, _, _, _] zOk rfl rfl ?_; intro bd1 wd2 nd3); have hd5 := nd3.blk; have xd6 := nd3.ext; have pd7 := nd3.pos; have zd8 := nd3.size; clear nd3; replace hP := hP.ext xd6; replace X := X.ext xd6; clear xd6; refine cT (cw_seq (cw_block (cS (cM rfl rfl ?_)))); refine cC (by kernel_rfl) rfl (peek_c _ _ _ (by assumption)) rfl ?_; rintro _ wd10 ⟨⟨⟩, xd9⟩; have zd11 := xd9.size; replace hd5 := hd5.ext xd9; replace hP := hP.ext xd9; replace X := X.ext xd9; clear xd9; refine lw_pure (pur_field tabOk rfl rfl rfl rfl rfl rfl) rfl (lw_pure (pur_eql rfl rfl) rfl (cA rfl rfl (cT ?_))); refine cw_no rfl (by assumption) ?_; refine cS (cM rfl rfl ?_); refine cC (by kernel_rfl) rfl (accept_f _ _ _ _ (by assumption) (by decide) (by assumption)) rfl ?_; rintro _ wd14 ⟨⟨⟩, ⟨hd12, fd13⟩⟩; have zd15 := fd13.size; replace hd5 := hd5.fr fd13 (by omega); clear hP; replace X := X.fr fd13 (by omega); clear fd13; refine cA rfl rfl (cT (cw_cond_f rfl (cS (cM rfl rfl ?_)))); refine cC (by kernel_rfl) rfl (accept_f _ _ _ _ (by assumption) (by decide) (by assumption)) rfl ?_; rintro _ wd18 ⟨⟨⟩, ⟨hd16, fd17⟩⟩; have zd19 := fd17.size; clear hd12; replace hd5 := hd5.fr fd17 (by omega); replace X := X.fr fd17 (by omega); clear fd17; refine cA rfl rfl (cT (cw_cond_f rfl (cS (cM rfl rfl ?_)))); refine cC (by kernel_rfl) rfl (accept_f _ _ _ _ (by assumption) (by decide) (by assumption)) rfl ?_; rintro _ wd22 ⟨⟨⟩, ⟨hd20, fd21⟩⟩; have zd23 := fd21.size; clear hd16; replace hd5 := hd5.fr fd21 (by omega)
    replace X := X.fr fd21 (by omega); clear fd21; refine cA rfl rfl (cT (cw_cond_f rfl (cw_skip (qw_block_norm (qw_then (cS (cM rfl rfl ?_))))))); refine cR (by kernel_rfl) rfl ((IH k (Nat.le_refl _)).place _ _ (by assumption) hf) (fun _ _ h => h.ret) rfl ?_; rintro _ wd29 ⟨ad24, ⟨kd25, ⟨⟨⟩, ⟨hd26, ⟨hd27, fd28⟩⟩⟩⟩⟩; have zd30 := fd28.size; clear hd20; replace hd5 := hd5.fr fd28 (by omega); replace X := X.fr fd28 (by omega); clear fd28; (refine lw_store' [_, _, _, _] [_, _, _, _] tabOk rfl rfl rfl rfl rfl rfl hd5 rfl rfl ?_; intro wd31 nd32); have hd35 := nd32.blk; have fd33 := nd32.fr; have zd34 := nd32.size; clear nd32 hd5; replace hd26 := Nd.sits.fr hd26 fd33 (by omega); replace hd27 := hd27.fr fd33 (by omega); replace X := X.fr fd33 (by omega); clear fd33; refine cT (cw_ret (qw_retc rfl tabOk rfl rfl rfl hd35 rfl ?_)); rotate_left 1
   exact tree_ret (Nd.sits.wide (by assumption) (fun b h => by omega)) (by assumption) X
set_option maxRecDepth 100000 in
set_option maxHeartbeats 1000000 in
theorem unary_w (c : PC) (k : Nat) (IH : ∀ j, j ≤ k → ExprsC c j) : UnaryC c (k + 1) := by
 intro σ w hP hk; have X := Fr.refl (· = c.pb) w; have hpb := hP.pbB; have hB := hP.B
 cases h1 : hasP c.ts σ [45]
 case true =>
  rw [show unaryP c.ts c.n (k + 1) σ = (.mk 6 0 [] [(unaryP c.ts c.n k (nextP σ)).1], (unaryP c.ts c.n k (nextP σ)).2) from by rw [unaryP]; simp [h1]]; have hm := mS_has hP.at_ h1 (by decide)
  have hf : 4 * mS c.ts (nextP σ) + 3 ≤ k := by omega
  refine calls_in Tryd.func44 Tryd.ntmps44 rfl rfl ?_
  focus
   refine cS ?_; (refine lw_alloc' [_, _, _, _] zOk rfl rfl ?_; intro b1 w2 n3); have h5 := n3.blk; have x6 := n3.ext; have p7 := n3.pos; have z8 := n3.size; clear n3; replace hP := hP.ext x6; replace X := X.ext x6; clear x6; refine cT (cw_seq (cw_block (cS (cM rfl rfl ?_)))); refine cC (by kernel_rfl) rfl (accept_t _ _ _ _ (by assumption) (by decide) (by assumption)) rfl ?_; rintro _ w11 ⟨⟨⟩, ⟨h9, f10⟩⟩; have z12 := f10.size; replace h5 := h5.fr f10 (by omega); clear hP; replace X := X.fr f10 (by omega); clear f10; refine cA rfl rfl (cT (cw_cond_t rfl (cS (cM rfl rfl ?_)))); refine cR (by kernel_rfl) rfl ((IH k (Nat.le_refl _)).unary _ _ (by assumption) hf) (fun _ _ h => h.ret) rfl ?_; rintro _ w18 ⟨a13, ⟨k14, ⟨⟨⟩, ⟨h15, ⟨h16, f17⟩⟩⟩⟩⟩; have z19 := f17.size; clear h9; replace h5 := h5.fr f17 (by omega); replace X := X.fr f17 (by omega); clear f17; (refine lw_does (does_slice' [_, _, _, _] tabOk zOk rfl rfl rfl rfl rfl rfl rfl rfl rfl) rfl ?_ (fun _ h => h); rintro _ w21 ⟨b20, rfl, n22, t23⟩); clear t23; have h24 := n22.blk; have x25 := n22.ext; have p26 := n22.pos; have z27 := n22.size; clear n22; replace h15 := Nd.sits.ext h15 x25; replace h16 := h16.ext x25; replace h5 := h5.ext x25; replace X := X.ext x25; clear x25; refine lw_pure (pur_build' [_, _, _, _] tabOk zOk rfl rfl rfl rfl) rfl ?_; (refine lw_store' [_, _, _, _] [_, _, _, _] tabOk rfl rfl rfl rfl rfl rfl h5 rfl rfl ?_; intro w28 n29); have h32 := n29.blk; have f30 := n29.fr; have z31 := n29.size; clear n29 h5; replace h24 := h24.fr f30 (by omega)
   replace h15 := Nd.sits.fr h15 f30 (by omega); replace h16 := h16.fr f30 (by omega); replace X := X.fr f30 (by omega); clear f30; refine cT (cw_ret (qw_block_ret (qw_then_ret (qw_retc rfl tabOk rfl rfl rfl h32 rfl ?_)))); rotate_left 1
  exact tree_ret (sits_1 (by assumption) (by omega) (by assumption) (fun b h => by omega)) (by assumption) X
 cases h2 : hasP c.ts σ [33]
 case true =>
  rw [show unaryP c.ts c.n (k + 1) σ = (.mk 7 0 [] [(unaryP c.ts c.n k (nextP σ)).1], (unaryP c.ts c.n k (nextP σ)).2) from by rw [unaryP]; simp [h1, h2]]; have hm := mS_has hP.at_ h2 (by decide)
  have hf : 4 * mS c.ts (nextP σ) + 3 ≤ k := by omega
  refine calls_in Tryd.func44 Tryd.ntmps44 rfl rfl ?_
  focus
   refine cS ?_; (refine lw_alloc' [_, _, _, _] zOk rfl rfl ?_; intro ba1 wa2 na3); have ha5 := na3.blk; have xa6 := na3.ext; have pa7 := na3.pos; have za8 := na3.size; clear na3; replace hP := hP.ext xa6; replace X := X.ext xa6; clear xa6; refine cT (cw_seq (cw_block (cS (cM rfl rfl ?_)))); refine cC (by kernel_rfl) rfl (accept_f _ _ _ _ (by assumption) (by decide) (by assumption)) rfl ?_; rintro _ wa11 ⟨⟨⟩, ⟨ha9, fa10⟩⟩; have za12 := fa10.size; replace ha5 := ha5.fr fa10 (by omega); clear hP; replace X := X.fr fa10 (by omega); clear fa10; refine cA rfl rfl (cT (cw_cond_f rfl (cS (cM rfl rfl ?_)))); refine cC (by kernel_rfl) rfl (accept_t _ _ _ _ (by assumption) (by decide) (by assumption)) rfl ?_; rintro _ wa15 ⟨⟨⟩, ⟨ha13, fa14⟩⟩; have za16 := fa14.size; clear ha9; replace ha5 := ha5.fr fa14 (by omega); replace X := X.fr fa14 (by omega); clear fa14; refine cA rfl rfl (cT (cw_cond_t rfl (cS (cM rfl rfl ?_)))); refine cR (by kernel_rfl) rfl ((IH k (Nat.le_refl _)).unary _ _ (by assumption) hf) (fun _ _ h => h.ret) rfl ?_; rintro _ wa22 ⟨aa17, ⟨ka18, ⟨⟨⟩, ⟨ha19, ⟨ha20, fa21⟩⟩⟩⟩⟩; have za23 := fa21.size; clear ha13; replace ha5 := ha5.fr fa21 (by omega); replace X := X.fr fa21 (by omega); clear fa21; (refine lw_does (does_slice' [_, _, _, _] tabOk zOk rfl rfl rfl rfl rfl rfl rfl rfl rfl) rfl ?_ (fun _ h => h); rintro _ wa25 ⟨ba24, rfl, na26, ta27⟩); clear ta27; have ha28 := na26.blk; have xa29 := na26.ext; have pa30 := na26.pos; have za31 := na26.size; clear na26; replace ha19 := Nd.sits.ext ha19 xa29
   replace ha20 := ha20.ext xa29; replace ha5 := ha5.ext xa29; replace X := X.ext xa29; clear xa29; refine lw_pure (pur_build' [_, _, _, _] tabOk zOk rfl rfl rfl rfl) rfl ?_; (refine lw_store' [_, _, _, _] [_, _, _, _] tabOk rfl rfl rfl rfl rfl rfl ha5 rfl rfl ?_; intro wa32 na33); have ha36 := na33.blk; have fa34 := na33.fr; have za35 := na33.size; clear na33 ha5; replace ha28 := ha28.fr fa34 (by omega); replace ha19 := Nd.sits.fr ha19 fa34 (by omega); replace ha20 := ha20.fr fa34 (by omega); replace X := X.fr fa34 (by omega); clear fa34; refine cT (cw_ret (qw_block_ret (qw_then_ret (qw_retc rfl tabOk rfl rfl rfl ha36 rfl ?_)))); rotate_left 1
  exact tree_ret (sits_1 (by assumption) (by omega) (by assumption) (fun b h => by omega)) (by assumption) X
 · rw [show unaryP c.ts c.n (k + 1) σ = primaryP c.ts c.n k σ from by rw [unaryP]; simp [h1, h2]]
   have hf : 4 * mS c.ts σ + 2 ≤ k := by omega
   refine calls_in Tryd.func44 Tryd.ntmps44 rfl rfl ?_
   focus
    refine cS ?_; (refine lw_alloc' [_, _, _, _] zOk rfl rfl ?_; intro bb1 wb2 nb3); have hb5 := nb3.blk; have xb6 := nb3.ext; have pb7 := nb3.pos; have zb8 := nb3.size; clear nb3; replace hP := hP.ext xb6; replace X := X.ext xb6; clear xb6; refine cT (cw_seq (cw_block (cS (cM rfl rfl ?_)))); refine cC (by kernel_rfl) rfl (accept_f _ _ _ _ (by assumption) (by decide) (by assumption)) rfl ?_; rintro _ wb11 ⟨⟨⟩, ⟨hb9, fb10⟩⟩; have zb12 := fb10.size; replace hb5 := hb5.fr fb10 (by omega); clear hP; replace X := X.fr fb10 (by omega); clear fb10; refine cA rfl rfl (cT (cw_cond_f rfl (cS (cM rfl rfl ?_)))); refine cC (by kernel_rfl) rfl (accept_f _ _ _ _ (by assumption) (by decide) (by assumption)) rfl ?_; rintro _ wb15 ⟨⟨⟩, ⟨hb13, fb14⟩⟩; have zb16 := fb14.size; clear hb9; replace hb5 := hb5.fr fb14 (by omega); replace X := X.fr fb14 (by omega); clear fb14; refine cA rfl rfl (cT (cw_cond_f rfl (cw_skip (qw_block_norm (qw_then (cS (cM rfl rfl ?_))))))); refine cR (by kernel_rfl) rfl ((IH k (Nat.le_refl _)).primary _ _ (by assumption) hf) (fun _ _ h => h.ret) rfl ?_; rintro _ wb22 ⟨ab17, ⟨kb18, ⟨⟨⟩, ⟨hb19, ⟨hb20, fb21⟩⟩⟩⟩⟩; have zb23 := fb21.size; clear hb13; replace hb5 := hb5.fr fb21 (by omega); replace X := X.fr fb21 (by omega); clear fb21; (refine lw_store' [_, _, _, _] [_, _, _, _] tabOk rfl rfl rfl rfl rfl rfl hb5 rfl rfl ?_; intro wb24 nb25); have hb28 := nb25.blk; have fb26 := nb25.fr; have zb27 := nb25.size; clear nb25 hb5; replace hb19 := Nd.sits.fr hb19 fb26 (by omega); replace hb20 := hb20.fr fb26 (by omega)
    replace X := X.fr fb26 (by omega); clear fb26; refine cT (cw_ret (qw_retc rfl tabOk rfl rfl rfl hb28 rfl ?_)); rotate_left 1
   exact tree_ret (Nd.sits.wide (by assumption) (fun b h => by omega)) (by assumption) X
end Bk
