/- Texts that the proofs of InverterDeep need. No condition. (Part 1 of 8.) -/
import Derived.Shelf.Slices.Clone
import Derived.Shelf.Lays2
import Derived.Shelf.Spec.SlicesInsertGrow
import Derived.Shelf.Slices.Delete
import Derived.Shelf.Slices.Equal
import Derived.Shelf.Lays
import Derived.Test.YtipjiidkdllbpaaGreatDoorProg
import Derived.WalkKit
import Derived.Orders
import Derived.OrdersHeld
import Derived.Lib.Hide
import Derived.Laws.AppendOwn
import Derived.IntWalk
import Derived.Lib.ItoaNum
import Derived.Laws.OwnMore
import Derived.Great.BuildSlice
import Derived.Shelf.Small.Strs
import Derived.Shelf.Strconv.Atoi
import Derived.Shelf.Strconv.Itoa0
import Derived.Shelf.Strconv.Itoa1
import Derived.Shelf.LaysM
import Derived.Shelf.Strconv.Itoa2
import Derived.Shelf.Strconv.Itoa3
import Derived.Shelf.Strconv.AtoiErrFast
import Derived.Shelf.Strconv.ParseIntEmpty
import Derived.Shelf.Strconv.AtoiFail
import Derived.Shelf.Strconv.Clone
import Derived.Shelf.Strconv.SyntaxError
import Derived.Shelf.LaysC
import Derived.Shelf.Strconv.ToError
import Derived.Shelf.Strconv.Lower
import Derived.Shelf.Strconv.ParseUint10
import Derived.Shelf.Strconv.ParseUint10Empty
import Derived.Shelf.Strconv.ParseUint10Any
import Derived.Shelf.Strconv.ParseInt10
import Derived.Shelf.Strconv.AtoiLong
import Derived.Shelf.Strconv.AtoiInnerAll
import Derived.Shelf.Strconv.RangeError
import Derived.Shelf.Strconv.ToErrorRange
import Derived.Shelf.Strconv.AtoiAll
import Derived.Shelf.Strconv.ErrVarAll
import Derived.Shelf.Strings.Search1
import Derived.Shelf.Strings.Prefix
import Derived.Lib.LazyBuf
import Derived.Lib.AtoiAll
import Derived.Lib.AtoiErrMem
import Derived.ArgAppend
import Derived.Lib.ConvBytes
import Derived.Laws.StructEq
import Derived.RangeFuncRecord
import Derived.RangeFuncLeaves
import Derived.RangeFuncSeq
import Derived.OrdersIn
import Derived.TacticsIn
import Derived.Recover
import Derived.ChangeArms
import Derived.Test.YtipjiidkdllbpaaGreatDoorRows
import Derived.Lib.LaidTab
import Derived.FnData
import Derived.LaidLaws
import Derived.ProofKit
import Derived.OpenShut
import Derived.Deep.DeepHandedRow
import Derived.ChangeMaps5
set_option linter.unusedSimpArgs false
set_option linter.unusedVariables false
set_option maxRecDepth 100000
set_option maxHeartbeats 4000000
open Go.Proofs.Tryz
namespace Go.Proofs
open Go.Shelf
def Tryz.lays2n15_ren:Go.Shelf.Ren:=⟨fun|15=>27|n=>n,fun|22=>30|3=>3|4=>4|n=>n,fun|n=>n⟩
theorem Tryz.lays2n15:Go.Proofs.Lays2.n15 prog Tryz.lays2n15_ren:={
 mixed:=by kernel_rfl
 f15:=func27.trans (congrArg some (by kernel_rfl))
 t3:=underlying3
 a3:=isAgg3
 z3:=sizeOf3
 v3:=zeroValue3
 t4:=underlying4
 a4:=isAgg4
 z4:=sizeOf4
 v4:=zeroValue4
 t22:=underlying30
 a22:=isAgg30
 z22:=sizeOf30
 v22:=zeroValue30
 i3:=by kernel_rfl }
def Tryz.lays2n21_ren:Go.Shelf.Ren:=⟨fun|21=>199|27=>205|28=>206|35=>211|39=>215|n=>n,fun|22=>30|3=>3|4=>4|0=>0|n=>n,fun|n=>n⟩
theorem Tryz.lays2n21:Go.Proofs.Lays2.n21 prog Tryz.lays2n21_ren:={
 mixed:=by kernel_rfl
 f21:=func199.trans (congrArg some (by kernel_rfl))
 f27:=func205.trans (congrArg some (by kernel_rfl))
 f28:=func206.trans (congrArg some (by kernel_rfl))
 f35:=func211.trans (congrArg some (by kernel_rfl))
 f39:=func215.trans (congrArg some (by kernel_rfl))
 t0:=underlying0
 a0:=isAgg0
 z0:=sizeOf0
 v0:=zeroValue0
 t3:=underlying3
 a3:=isAgg3
 z3:=sizeOf3
 v3:=zeroValue3
 t4:=underlying4
 a4:=isAgg4
 z4:=sizeOf4
 v4:=zeroValue4
 t22:=underlying30
 a22:=isAgg30
 z22:=sizeOf30
 v22:=zeroValue30
 i3:=by kernel_rfl }
def Tryz.lays2n23_ren:Go.Shelf.Ren:=⟨fun|23=>198|n=>n,fun|22=>30|3=>3|4=>4|0=>0|n=>n,fun|n=>n⟩
theorem Tryz.lays2n23:Go.Proofs.Lays2.n23 prog Tryz.lays2n23_ren:={
 mixed:=by kernel_rfl
 f23:=func198.trans (congrArg some (by kernel_rfl))
 t0:=underlying0
 a0:=isAgg0
 z0:=sizeOf0
 v0:=zeroValue0
 t3:=underlying3
 a3:=isAgg3
 z3:=sizeOf3
 v3:=zeroValue3
 t4:=underlying4
 a4:=isAgg4
 z4:=sizeOf4
 v4:=zeroValue4
 t22:=underlying30
 a22:=isAgg30
 z22:=sizeOf30
 v22:=zeroValue30
 i3:=by kernel_rfl }
def Tryz.laysn111_ren:Go.Shelf.Ren:=⟨fun|111=>42|n=>n,fun|28=>30|3=>3|4=>4|0=>0|n=>n,fun|n=>n⟩
theorem Tryz.laysn111:Go.Proofs.Lays.n111 prog Tryz.laysn111_ren:={
 mixed:=by kernel_rfl
 f111:=func42.trans (congrArg some (by kernel_rfl))
 t0:=underlying0
 a0:=isAgg0
 z0:=sizeOf0
 v0:=zeroValue0
 t3:=underlying3
 a3:=isAgg3
 z3:=sizeOf3
 v3:=zeroValue3
 t4:=underlying4
 a4:=isAgg4
 z4:=sizeOf4
 v4:=zeroValue4
 t28:=underlying30
 a28:=isAgg30
 z28:=sizeOf30
 v28:=zeroValue30 }
end Go.Proofs
namespace Bk
open Go Go.RowKit
def Ext (w w':World):Prop:=Below w.heap.size w w'
theorem Ext.refl (w:World):Ext w w:=Below.refl _ _
theorem Ext.trans {a b c:World} (h:Ext a b) (k:Ext b c):Ext a c:=Below.trans h (Below.mono k h.size)
theorem Ext.alloc {a w:World} (h:Ext a w) (o:Obj):Ext a (w.alloc o):=Below.alloc h h.size o
theorem Ext.drew {a w:World} (h:Ext a w):Ext a w.drew:=Below.drew h
theorem Ext.setCell {a w:World} (h:Ext a w) (p:Addr) (v:Value) (hp:a.heap.size≤p.block):Ext a (w.setCell p v):=Below.setCell h hp v
theorem Ext.size {a w:World} (h:Ext a w):a.heap.size≤w.heap.size:=Below.size h
theorem Ext.block {a w:World} (h:Ext a w) {k:Nat} (hk:k<a.heap.size):w.heap[k]? = a.heap[k]? := Below.block h k hk
theorem Ext.cells {a w:World} (h:Ext a w) : ∀b o,b<a.heap.size→w.cell? ⟨b,o,none⟩=a.cell? ⟨b,o,none⟩:=fun b o hb=>Below.cell (p:=⟨b,o,none⟩) h hb
theorem Ca {w:World} {p:Addr} {v:Value} (h:w.cell? p=some v):p.block<w.heap.size:=by
 unfold World.cell? at h
 rcases Nat.lt_or_ge p.block w.heap.size with h'|h'
 · exact h'
 · simp [Array.getElem?_eq_none h'] at h
theorem Ext.keep {a w:World} (h:Ext a w) {b o:Nat} {v:Value} (hc:a.cell? ⟨b,o,none⟩=some v):w.cell? ⟨b,o,none⟩=some v:=
 (h.cells b o (Ca hc)).trans hc
inductive Nd where
 | mk (kind num:Int) (name:List UInt8) (kids:List Nd)
def Nd.kind:Nd→Int | .mk k _ _ _=>k
def Nd.num:Nd→Int | .mk _ n _ _=>n
def Nd.name:Nd→List UInt8 | .mk _ _ s _=>s
def Nd.kids:Nd→List Nd | .mk _ _ _ l=>l
abbrev str (l:List UInt8):Value:=.string ⟨l.toArray⟩
abbrev Nd.val (t:Nd) (a:Option Addr) (c:Nat):Value:=.agg #[.int .u8 t.kind,.int .i64 t.num,str t.name,.slice a t.kids.length c]
abbrev Nd.cells (t:Nd) (a:Option Addr) (c:Nat):List Value:=[.int .u8 t.kind,.int .i64 t.num,str t.name,.slice a t.kids.length c]
mutual
def Nd.sits (S:Nat→Prop) (w:World):Nd→Option Addr→Prop
 | .mk _ _ _ l,a=>rowSits S w l a
def rowSits (S:Nat→Prop) (w:World):List Nd→Option Addr→Prop
 | [],_=>True
 | t::r,a=> ∃b o a' c,a=some ⟨b,o,none⟩∧S b∧w.cell? ⟨b,o,none⟩=some (.int .u8 t.kind)∧w.cell? ⟨b,o+1,none⟩=some (.int .i64 t.num) ∧
  w.cell? ⟨b,o+2,none⟩=some (str t.name)∧w.cell? ⟨b,o+3,none⟩=some (.slice a' t.kids.length c)∧t.sits S w a'∧rowSits S w r (some ⟨b,o+4,none⟩)
end
mutual
def Nd.wf:Nd→Prop
 | .mk k n s l=>0≤k∧k≤255 ∧ -9223372036854775808≤n∧n≤9223372036854775807∧s.length≤9223372036854775807∧l.length≤9223372036854775807∧C6 l
def C6:List Nd→Prop
 | []=>True
 | t::r=>t.wf∧C6 r
end
mutual
def Nd.size:Nd→Nat
 | .mk _ _ _ l=>1+Au l
def Au:List Nd→Nat
 | []=>0
 | t::r=>t.size+Au r
end
theorem Ce {l:List Nd} (h:C6 l) : ∀t∈l,t.wf:=by
 induction l with
 | nil=>simp
 | cons x r ih=>
  simp only [C6] at h
  intro t ht
  rcases List.mem_cons.1 ht with rfl|ht
  · exact h.1
  · exact ih h.2 t ht
theorem Dw {l:List Nd} {t:Nd} (h:t∈l):t.size≤Au l:=by
 induction l with
 | nil=>cases h
 | cons x r ih=>
  simp only [Au]
  rcases List.mem_cons.1 h with rfl|h
  · omega
  · have:=ih h;omega
theorem Nd.size_pos (t:Nd):1≤t.size:=by cases t;simp [Nd.size]
theorem EK {S:Nat→Prop} {w:World} {l:List Nd} {a:Option Addr} (h:rowSits S w l a) {i:Nat} {t:Nd} (ht:l[i]? = some t) :
 ∃b o a' c,a=some ⟨b,o,none⟩∧S b∧w.cell? ⟨b,o+i*4,none⟩=some (.int .u8 t.kind)∧w.cell? ⟨b,o+i*4+1,none⟩=some (.int .i64 t.num) ∧
  w.cell? ⟨b,o+i*4+2,none⟩=some (str t.name)∧w.cell? ⟨b,o+i*4+3,none⟩=some (.slice a' t.kids.length c)∧t.sits S w a':=by
 induction l generalizing i a with
 | nil=>simp at ht
 | cons x r ih=>
  simp only [rowSits] at h
  obtain ⟨b,o,a',c,rfl,hS,h0,h1,h2,h3,hs,hr⟩:=h
  cases i with
  | zero=>
   simp at ht
   subst ht
   exact ⟨b,o,a',c,rfl,hS,h0,h1,h2,h3,hs⟩
  | succ i=>
   obtain ⟨b',o',a'',c',he,r⟩:=ih hr (by simpa using ht)
   simp only [Option.some.injEq,Addr.mk.injEq] at he
   obtain ⟨rfl,rfl,-⟩:=he
   refine ⟨b,o,a'',c',rfl,r.1,?_⟩
   rw [show o+(i+1)*4=o+4+i*4 from by omega]
   exact r.2
mutual
theorem Nd.sits_mono {S S':Nat→Prop} {w w':World} (hS : ∀b,S b→S' b) (hc : ∀b o v,S b→w.cell? ⟨b,o,none⟩=some v→w'.cell? ⟨b,o,none⟩=some v) :
 ∀(t:Nd) (a:Option Addr),t.sits S w a→t.sits S' w' a
 | .mk _ _ _ l,a,h=>by
  simp only [Nd.sits] at h ⊢
  exact EX hS hc l a h
theorem EX {S S':Nat→Prop} {w w':World} (hS : ∀b,S b→S' b) (hc : ∀b o v,S b→w.cell? ⟨b,o,none⟩=some v→w'.cell? ⟨b,o,none⟩=some v) :
 ∀(l:List Nd) (a:Option Addr),rowSits S w l a→rowSits S' w' l a
 | [],_,_=>by simp [rowSits]
 | t::r,a,h=>by
  simp only [rowSits] at h ⊢
  obtain ⟨b,o,a',c,rfl,hb,h0,h1,h2,h3,hs,hr⟩:=h
  exact ⟨b,o,a',c,rfl,hS b hb,hc _ _ _ hb h0,hc _ _ _ hb h1,hc _ _ _ hb h2,hc _ _ _ hb h3,Nd.sits_mono hS hc t a' hs,EX hS hc r _ hr⟩
end
theorem rowSits.ext {S:Nat→Prop} {w w':World} {l:List Nd} {a:Option Addr} (h:rowSits S w l a) (e:Ext w w'):rowSits S w' l a:=
 EX (fun _ h=>h) (fun _ _ _ _ hc=>e.keep hc) l a h
theorem Nd.sits.ext {S:Nat→Prop} {w w':World} {t:Nd} {a:Option Addr} (h:t.sits S w a) (e:Ext w w'):t.sits S w' a:=
 Nd.sits_mono (fun _ h=>h) (fun _ _ _ _ hc=>e.keep hc) t a h
structure Fr (S:Nat→Prop) (w w':World):Prop where
 os:w'.os=w.os
 tape:w'.tape=w.tape
 output:w'.output=w.output
 size:w.heap.size≤w'.heap.size
 block : ∀k,k<w.heap.size → ¬S k→w'.heap[k]? = w.heap[k]?
theorem Fr.refl (S:Nat→Prop) (w:World):Fr S w w:=⟨rfl,rfl,rfl,Nat.le_refl _,fun _ _ _=>rfl⟩
theorem Fr.trans {S:Nat→Prop} {a b c:World} (h:Fr S a b) (k:Fr S b c):Fr S a c:=
 ⟨k.os.trans h.os,k.tape.trans h.tape,k.output.trans h.output,Nat.le_trans h.size k.size,fun i hi hs=>(k.block i (Nat.lt_of_lt_of_le hi h.size) hs).trans (h.block i hi hs)⟩
theorem Fr.of_ext {S:Nat→Prop} {a b:World} (h:Ext a b):Fr S a b:=⟨Below.os h,Below.tape h,Below.output h,Below.size h,fun k hk _=>Below.block h k hk⟩
theorem Fr.alloc {S:Nat→Prop} {a w:World} (h:Fr S a w) (o:Obj):Fr S a (w.alloc o):=h.trans (.of_ext ((Ext.refl w).alloc o))
theorem Fr.drew {S:Nat→Prop} {a w:World} (h:Fr S a w):Fr S a w.drew:=h.trans (.of_ext (Ext.refl w).drew)
theorem Fr.setCell {S:Nat→Prop} {a w:World} (h:Fr S a w) (p:Addr) (v:Value) (hp:S p.block∨a.heap.size≤p.block):Fr S a (w.setCell p v):=by
 refine ⟨h.os,h.tape,h.output,?_,fun k hk hs=>?_⟩
 · have:(w.setCell p v).heap.size=w.heap.size:=by simp [World.setCell]
   rw [this];exact h.size
 · rw [Below.heap_setCell _ _ _ _ (by rintro rfl;rcases hp with hp|hp;exact hs hp;omega)]
   exact h.block k hk hs
theorem Fr.cells {S:Nat→Prop} {a w:World} (h:Fr S a w) : ∀b o,b<a.heap.size → ¬S b→w.cell? ⟨b,o,none⟩=a.cell? ⟨b,o,none⟩:=
 fun b _ hb hs=>World.cell?_of_block (w:=a) (h.block b hb hs)
theorem Fr.keep {S:Nat→Prop} {a w:World} (h:Fr S a w) {b o:Nat} {v:Value} (hs : ¬S b) (hc:a.cell? ⟨b,o,none⟩=some v):w.cell? ⟨b,o,none⟩=some v:=
 (h.cells b o (Ca hc) hs).trans hc
theorem rowSits.fr {S T:Nat→Prop} {w w':World} {l:List Nd} {a:Option Addr} (h:rowSits S w l a) (e:Fr T w w') (hd : ∀b,S b → ¬T b):rowSits S w' l a:=
 EX (fun _ h=>h) (fun b _ _ hb hc=>e.keep (hd b hb) hc) l a h
theorem Nd.sits.fr {S T:Nat→Prop} {w w':World} {t:Nd} {a:Option Addr} (h:t.sits S w a) (e:Fr T w w') (hd : ∀b,S b → ¬T b):t.sits S w' a:=
 Nd.sits_mono (fun _ h=>h) (fun b _ _ hb hc=>e.keep (hd b hb) hc) t a h
abbrev Sl:=List (Nat×Value)
def look:Sl→Nat→Option Value
 | [],_=>none
 | (k,v)::r,d=>match Nat.beq k d with
  | true=>some v
  | false=>look r d
def ev (l:Sl):Operand→Option Value
 | .tmp t=>look l t
 | .const v=>some v
 | .global g=>some (.pointer (some ⟨g,0,none⟩))
 | .func f=>some (.func (.func f) #[] #[])
def evs (l:Sl):List Operand→Option (List Value)
 | []=>some []
 | x::r=>match ev l x with
  | none=>none
  | some v=>match evs l r with
   | none=>none
   | some vs=>some (v::vs)
structure Env (n:Nat) (l:Sl) (a:Act):Prop where
 size:a.tmps.size=n
 defers:a.defers=[]
 has : ∀d v,look l d=some v→a.tmps.getD d undef=v
theorem Env.ev {n:Nat} {l:Sl} {a:Act} (h:Env n l a) {x:Operand} {v:Value} (hx:ev l x=some v):a.eval x=v:=by
 cases x with
 | tmp t=>exact h.has t v hx
 | const c=>simpa [Bk.ev,Act.eval] using hx
 | global g=>simpa [Bk.ev,Act.eval] using hx
 | func f=>simpa [Bk.ev,Act.eval] using hx
theorem Env.evs {n:Nat} {l:Sl} {a:Act} (h:Env n l a) : ∀ {xs:List Operand} {vs:List Value},evs l xs=some vs→xs.map a.eval=vs
 | [],vs,hx=>by simp [Bk.evs] at hx;simp [hx]
 | x::r,vs,hx=>by
  simp only [Bk.evs] at hx
  cases h1:Bk.ev l x with
  | none=>simp [h1] at hx
  | some v=>
   cases h2:Bk.evs l r with
   | none=>simp [h1,h2] at hx
   | some us=>
    simp [h1,h2] at hx
    subst hx
    simp [h.ev h1,Env.evs h h2]
theorem GU (k:Nat) (v:Value) (l:Sl) (d:Nat):look ((k,v)::l) d=if k=d then some v else look l d:=by
 simp only [look]
 by_cases h:k=d
 · subst h;simp
 · have:Nat.beq k d=false:=by
    cases hb:Nat.beq k d
    · rfl
    · exact absurd (Nat.eq_of_beq_eq_true hb) h
   rw [this,if_neg h]
theorem Env.put {n:Nat} {l:Sl} {a:Act} (h:Env n l a) {d:Nat} (hd:Nat.blt d n=true) (v:Value):Env n ((d,v)::l) (a.put (some d) v):=by
 have hd':d<n:=Nat.le_of_ble_eq_true hd
 refine ⟨by simp [Act.put,h.size],by simp [Act.put,h.defers],fun k u hk=>?_⟩
 rw [GU] at hk
 simp only [Act.put]
 by_cases e:d=k
 · subst e
   simp at hk
   subst hk
   simp [h.size,hd']
 · rw [if_neg e] at hk
   have:=h.has k u hk
   simpa [Array.getElem?_setIfInBounds_ne e] using this
def Qh (m l:Sl):Prop:= ∀d v,look m d=some v→look l d=some v
theorem Env.sub {n:Nat} {m l:Sl} {a:Act} (h:Env n l a) (hs:Qh m l):Env n m a:=⟨h.size,h.defers,fun d v hv=>h.has d v (hs d v hv)⟩
theorem Dq {l:Sl}:Qh [] l:=fun _ _ h=>by simp [look] at h
theorem Be {m l:Sl} {d:Nat} {v:Value} (h:look l d=some v) (r:Qh m l):Qh ((d,v)::m) l:=fun k u hk=>by
 rw [GU] at hk
 by_cases e:d=k
 · subst e;simp at hk;subst hk;exact h
 · rw [if_neg e] at hk;exact r k u hk
theorem BZ {m l:Sl} {d:Nat} {v v':Value} (h:look l d=some v') (e:v'=v) (r:Qh m l):Qh ((d,v)::m) l:=Be (e▸h) r
def CW (P:Program) (n:Nat) (c:Code) (Q:Exit→Act→World→Prop) (l:Sl) (w:World):Prop:= ∀a,Env n l a→c.wp P Q a w
def LW (P:Program) (n:Nat) (ops:Array Oper) (Q:Exit→Act→World→Prop) (os:List Oper) (l:Sl) (w:World):Prop:= ∀a,Env n l a→wpList P ops Q os a w
def QW (n:Nat) (Q:Exit→Act→World→Prop) (e:Exit) (l:Sl) (w:World):Prop:= ∀a,Env n l a→Q e a w
section code
variable {P:Program} {n:Nat} {Q:Exit→Act→World→Prop} {l:Sl} {w:World}
theorem CW.sub {c:Code} {m:Sl} (h:CW P n c Q m w) (hs:Qh m l):CW P n c Q l w:=fun a ha=>h a (ha.sub hs)
theorem Am {x y:Code} (h:CW P n x (Exit.then (y.wp P Q) Q) l w):CW P n (.seq x y) Q l w:=fun a ha=>wp_seq (h a ha)
theorem U4 {x y:Code} (I:Act→World→Prop) (h:CW P n x (Exit.then I Q) l w) (k : ∀a w,I a w→y.wp P Q a w):CW P n (.seq x y) Q l w:=fun a ha=>
 wp_seq (Code.wp_mono (fun e a w q=>by cases e<;>first|exact k _ _ q|exact q) (h a ha))
theorem Ai {y:Code} (h:CW P n y Q l w):QW n (Exit.then (y.wp P Q) Q) .normal l w:=h
theorem Qi {I:Act→World→Prop} (h : ∀a,Env n l a→I a w):QW n (Exit.then I Q) .normal l w:=h
theorem AI {K:Act→World→Prop} (h:QW n Q .ret l w):QW n (Exit.then K Q) .ret l w:=h
theorem A5 {K:Act→World→Prop} {i:Nat} (h:QW n Q (.exit i) l w):QW n (Exit.then K Q) (.exit i) l w:=h
theorem AH (h:QW n Q .normal l w):CW P n .skip Q l w:=fun a ha=>wp_skip (h a ha)
theorem Ds {i:Nat} (h:QW n Q (.exit i) l w):CW P n (.exit i) Q l w:=fun a ha=>wp_exit (h a ha)
theorem B6 (h:QW n Q .ret l w):CW P n .ret Q l w:=fun a ha=>wp_ret (h a ha)
theorem AK {i:Nat} {c:Code} (h:CW P n c (Exit.inBlock i Q) l w):CW P n (.block i c) Q l w:=fun a ha=>wp_block (h a ha)
theorem An {i:Nat} (h:QW n Q .normal l w):QW n (Exit.inBlock i Q) .normal l w:=h
theorem Bc {i:Nat} (h:QW n Q .ret l w):QW n (Exit.inBlock i Q) .ret l w:=h
theorem Bw {i:Nat} (h:QW n Q .normal l w):QW n (Exit.inBlock i Q) (.exit i) l w:=fun a ha=>by simp only [Exit.inBlock,if_true];exact h a ha
theorem IW {c:Operand} {x y:Code} (hc:ev l c=some (.bool true)) (h:CW P n x Q l w):CW P n (.cond c x y) Q l w:=fun a ha=>wp_cond_true (ha.ev hc) (h a ha)
theorem Ep {c:Operand} {x y:Code} (hc:ev l c=some (.bool false)) (h:CW P n y Q l w):CW P n (.cond c x y) Q l w:=fun a ha=>wp_cond_false (ha.ev hc) (h a ha)
theorem JF {c:Operand} {x y:Code} {b:Bool} (hc:ev l c=some (.bool b)) (ht:b=true→CW P n x Q l w) (hf:b=false→CW P n y Q l w):CW P n (.cond c x y) Q l w:=
 fun a ha=>wp_cond_split (ha.ev hc) (fun e=>ht e a ha) (fun e=>hf e a ha)
theorem AO {c:Operand} {x y:Code} {p:Prop} [Decidable p] (hc:ev l c=some (.bool (decide p))) (ht:p→CW P n x Q l w) (hf : ¬p→CW P n y Q l w):CW P n (.cond c x y) Q l w:=
 JF hc (fun e=>ht (of_decide_eq_true e)) (fun e=>hf (of_decide_eq_false e))
theorem Cs {c:Operand} {x y:Code} {p:Prop} [Decidable p] (hc:ev l c=some (.bool (decide p))) (hp:p) (h:CW P n x Q l w):CW P n (.cond c x y) Q l w:=
 AO hc (fun _=>h) (fun e=>absurd hp e)
theorem Cb {c:Operand} {x y:Code} {p:Prop} [Decidable p] (hc:ev l c=some (.bool (decide p))) (hp : ¬p) (h:CW P n y Q l w):CW P n (.cond c x y) Q l w:=
 AO hc (fun e=>absurd e hp) (fun _=>h)
theorem Ec {c:Operand} {x y:Code} {b:Bool} (hc:ev l c=some (.bool b)) (hb:b=true) (h:CW P n x Q l w):CW P n (.cond c x y) Q l w:=IW (hb▸hc) h
theorem Fa {c:Operand} {x y:Code} {b:Bool} (hc:ev l c=some (.bool b)) (hb:b=false) (h:CW P n y Q l w):CW P n (.cond c x y) Q l w:=Ep (hb▸hc) h
theorem Ah {id:Nat} {os:List Oper} (h:LW P n os.toArray Q os l w):CW P n (.region id os.toArray false) Q l w:=fun a ha=>wp_region_lit (h a ha)
theorem Bn {ι:Type} {c:Code} (L:ι→Sl) (I:ι→World→Prop) (μ:ι→Nat) (x₀:ι) (hs:Qh (L x₀) l) (h₀:I x₀ w)
 (round : ∀x w,I x w→CW P n c (Exit.then (fun a' w'=> ∃y,Env n (L y) a'∧I y w'∧μ y<μ x) Q) (L x) w):CW P n (.loop c) Q l w:=by
 intro a ha
 intro b k cs
 have key : ∀m x a w,μ x=m→I x w→Env n (L x) a →
  ∃e a' w',Q e a' w'∧Arrives P (lone (b.at a (.code c::.inLoop c::k)) cs w) b k cs e a' w':=by
  intro m
  induction m using Nat.strongRecOn with
  | _ m ih=>
   intro x a w hm hI hE
   obtain ⟨e,a₁,w₁,hq,harr⟩:=round x w hI a hE b (.inLoop c::k) cs
   cases e with
   | normal=>
    obtain ⟨y,hE₁,hI₁,hlt⟩:=hq
    obtain ⟨e₂,a₂,w₂,hq₂,harr₂⟩:=ih (μ y) (hm▸hlt) y a₁ w₁ rfl hI₁ hE₁
    exact ⟨e₂,a₂,w₂,hq₂,.of_steps (Steps.trans harr (.one step_inLoop)) harr₂⟩
   | exit id=>exact ⟨_,a₁,w₁,hq,.pass (x:=.inLoop c) rfl (fun _ _=>.inl (by simp)) harr⟩
   | goto l=>exact ⟨_,a₁,w₁,hq,.pass (x:=.inLoop c) rfl (fun _ _=>.inl (by simp)) harr⟩
   | ret=>exact ⟨_,a₁,w₁,hq,.pass (x:=.inLoop c) rfl (fun _ _=>.inl (by simp)) harr⟩
   | panic ch=>exact ⟨_,a₁,w₁,hq,.pass (x:=.inLoop c) rfl (fun _ _=>.inl (by simp)) harr⟩
   | outgrown=>exact ⟨_,a₁,w₁,hq,harr⟩
 obtain ⟨e,a',w',hq,harr⟩:=key (μ x₀) x₀ a w rfl h₀ (ha.sub hs)
 exact ⟨e,a',w',hq,.of_steps (.one step_loop) harr⟩
theorem AW {ι:Type} {L:ι→Sl} {I:ι→World→Prop} {μ:ι→Nat} {x:ι} (y:ι) (hs:Qh (L y) l) (h:I y w) (hm:μ y<μ x) :
 QW n (Exit.then (fun a' w'=> ∃y,Env n (L y) a'∧I y w'∧μ y<μ x) Q) .normal l w:=fun _ ha=>⟨y,ha.sub hs,h,hm⟩
end code
def Gx:Nat→List Value→Sl
 | _,[]=>[]
 | i,v::r=>(i,v)::Gx (i+1) r
theorem GV (d:Nat) (v:Value) : ∀(vs:List Value) (i:Nat),look (Gx i vs) d=some v→i≤d∧vs[d-i]? = some v
 | [],_,h=>by simp [Gx,look] at h
 | u::r,i,h=>by
  simp only [Gx] at h
  rw [GU] at h
  by_cases e:i=d
  · subst e;simp at h;subst h;simp
  · rw [if_neg e] at h
    obtain ⟨h1,h2⟩:=GV d v r (i+1) h
    refine ⟨by omega,?_⟩
    rw [show d-i=(d-(i+1))+1 from by omega]
    simpa using h2
theorem Ad {P:Program} {f:FuncId} {fn:Func} {c:Code} {args:List Value} {n:Nat} {w:World} {R:Ending→World→Prop}
 (hf:P.funcs[f]? = some fn) (hn:fn.ntmps=n) (hb:fn.body=some c) (hl:Nat.ble args.length n=true) (h:CW P n c (bodyPost P fn R) (Gx 0 args) w):Calls P f args.toArray w R:=by
 refine calls_of_wp hf hb (h _ ?_)
 have hl':args.length≤n:=by simpa using hl
 refine ⟨by simp;omega,rfl,fun d v hv=>?_⟩
 obtain ⟨-,h2⟩:=GV d v args 0 hv
 simp only [Nat.sub_zero] at h2
 have:d<args.length:=by
  rcases Nat.lt_or_ge d args.length with h|h
  · exact h
  · rw [List.getElem?_eq_none h] at h2;cases h2
 rw [List.getElem?_eq_getElem this] at h2
 simp only [Option.some.injEq] at h2
 simp [Array.getElem?_append,this,h2]
section ends
variable {P:Program} {fn:Func} {n:Nat} {R:Ending→World→Prop} {l:Sl} {w:World}
theorem L8 (h:fn.results = #[]) (hR:R (.returned (.tuple #[])) w):QW n (bodyPost P fn R) .ret l w:=fun a ha=>⟨ha.defers,_,results_none h _ _ _,hR⟩
theorem Bt (h:fn.results = #[]) (hR:R (.returned (.tuple #[])) w):QW n (bodyPost P fn R) .normal l w:=fun a ha=>⟨ha.defers,_,results_none h _ _ _,hR⟩
theorem Af {t:Nat} {v:Value} (h:fn.results = #[.tmp t]) (hv:look l t=some v) (hR:R (.returned v) w):QW n (bodyPost P fn R) .ret l w:=fun a ha=>
 ⟨ha.defers,_,results_tmp h _ _ _,by rw [ha.has t v hv];exact hR⟩
theorem AU {t u:Nat} {v x:Value} (h:fn.results = #[.tmp t,.tmp u]) (hv:look l t=some v) (hx:look l u=some x) (hR:R (.returned (.tuple #[v,x])) w):QW n (bodyPost P fn R) .ret l w:=fun a ha=>
 ⟨ha.defers,_,results_tmp2 h _ _ _,by rw [ha.has t v hv,ha.has u x hx];exact hR⟩
end ends
inductive Sk where
 | int (k:IntKind)|bool|str|slice (e:Nat)|struct (fs:List (Nat×Nat))|array (len e:Nat)|ptr (e:Nat)|map (k e:Nat)|func|iface
abbrev Tab:=List (Nat×Sk×Nat)
def AL:Tab→Nat→Option (Sk×Nat)
 | [],_=>none
 | p::r,t=>match Nat.beq p.1 t with
  | true=>some p.2
  | false=>AL r t
def Sk.ok (P:Program) (t:Nat):Sk→Prop
 | .int k=>P.underlying t=some (.int k)
 | .bool=>P.underlying t=some .bool
 | .str=>P.underlying t=some .string
 | .slice e=>P.underlying t=some (.slice e)
 | .array n e=>P.underlying t=some (.array n e)
 | .ptr e=>P.underlying t=some (.pointer e)
 | .map k e=>P.underlying t=some (.map k e)
 | .func=> ∃a b c,P.underlying t=some (.func a b c)
 | .iface=> ∃a,P.underlying t=some (.interface a)
 | .struct fs=> ∃gs,P.underlying t=some (.struct gs)∧gs.size=fs.length ∧ ∀(i o ft:Nat),fs[i]? = some (o,ft) → ∃g:Field,gs[i]? = some g∧g.offset=o∧g.type=ft ∧ ∃j:TypeInfo,P.info? ft=some j∧j.size≠0
def Sk.check (P:Program) (t:Nat):Sk→Bool
 | .int k=>match P.underlying t with|some (.int k')=>decide (k=k')|_=>false
 | .bool=>match P.underlying t with|some .bool=>true|_=>false
 | .str=>match P.underlying t with|some .string=>true|_=>false
 | .slice e=>match P.underlying t with|some (.slice e')=>Nat.beq e' e|_=>false
 | .array n e=>match P.underlying t with|some (.array n' e')=>Nat.beq n' n&&Nat.beq e' e|_=>false
 | .ptr e=>match P.underlying t with|some (.pointer e')=>Nat.beq e' e|_=>false
 | .map k e=>match P.underlying t with|some (.map k' e')=>Nat.beq k' k&&Nat.beq e' e|_=>false
 | .func=>match P.underlying t with|some (.func _ _ _)=>true|_=>false
 | .iface=>match P.underlying t with|some (.interface _)=>true|_=>false
 | .struct fs=>match P.underlying t with
  | some (.struct gs)=>Nat.beq gs.size fs.length&&(List.range fs.length).all fun i=>match fs[i]?,gs[i]? with
   | some (o,ft),some g=>Nat.beq g.offset o&&Nat.beq g.type ft&&match P.info? ft with|some j=> !Nat.beq j.size 0|none=>false
   | _,_=>false
  | _=>false
theorem Sk.ok_of_check {P:Program} {t:Nat} {s:Sk} (h:s.check P t=true):s.ok P t:=by
 cases s with
 | struct fs=>
  simp only [Sk.check] at h
  split at h
  · rename_i gs hg
    simp only [Bool.and_eq_true,List.all_eq_true,List.mem_range] at h
    refine ⟨gs,hg,Nat.eq_of_beq_eq_true h.1,fun i o ft hi=>?_⟩
    have hlt:i<fs.length:=by
     rcases Nat.lt_or_ge i fs.length with h'|h'
     · exact h'
     · rw [List.getElem?_eq_none h'] at hi;cases hi
    have hh:=h.2 i hlt
    rw [hi] at hh
    split at hh
    · rename_i o' ft' g e1 e2
      simp only [Option.some.injEq,Prod.mk.injEq] at e1
      obtain ⟨rfl,rfl⟩:=e1
      simp only [Bool.and_eq_true] at hh
      refine ⟨g,e2,Nat.eq_of_beq_eq_true hh.1.1,Nat.eq_of_beq_eq_true hh.1.2,?_⟩
      have h3:=hh.2
      split at h3
      · rename_i j hj
        exact ⟨j,hj,fun e=>by rw [e] at h3;simp at h3⟩
      · cases h3
    · cases hh
  · cases h
 | func=>
  simp only [Sk.check] at h
  split at h
  · exact ⟨_,_,_,by assumption⟩
  · cases h
 | iface=>
  simp only [Sk.check] at h
  split at h
  · exact ⟨_,by assumption⟩
  · cases h
 | int k=>simp only [Sk.check] at h;split at h<;>simp_all [Sk.ok]
 | bool=>simp only [Sk.check] at h;split at h<;>simp_all [Sk.ok]
 | str=>simp only [Sk.check] at h;split at h<;>simp_all [Sk.ok]
 | slice e=>simp only [Sk.check] at h;split at h<;>simp_all [Sk.ok]
 | ptr e=>simp only [Sk.check] at h;split at h<;>simp_all [Sk.ok]
 | array n e=>simp only [Sk.check] at h;split at h<;>simp_all [Sk.ok]
 | map n e=>simp only [Sk.check] at h;split at h<;>simp_all [Sk.ok]
structure TyOk (P:Program) (t:Nat) (s:Sk) (sz:Nat):Prop where
 under:s.ok P t
 info : ∃i,P.info? t=some i∧i.size=sz
def TabOk (P:Program) (tab:Tab):Prop:= ∀t s sz,AL tab t=some (s,sz)→TyOk P t s sz
def Tab.check (P:Program) (tab:Tab):Bool:=tab.all fun p=>p.2.1.check P p.1&&match P.info? p.1 with|some i=>Nat.beq i.size p.2.2|none=>false
theorem Qj {tab:Tab} {t:Nat} {x:Sk×Nat} (h:AL tab t=some x):(t,x)∈tab:=by
 induction tab with
 | nil=>simp [AL] at h
 | cons p r ih=>
  simp only [AL] at h
  split at h
  · rename_i hb
    have:=Nat.eq_of_beq_eq_true hb
    simp only [Option.some.injEq] at h
    subst h this
    exact List.mem_cons_self
  · exact List.mem_cons_of_mem _ (ih h)
theorem TabOk.of_check {P:Program} {tab:Tab} (h:tab.check P=true):TabOk P tab:=fun t s sz hl=>by
 have:=List.all_eq_true.1 h _ (Qj hl)
 simp only [Bool.and_eq_true] at this
 refine ⟨Sk.ok_of_check this.1,?_⟩
 have h2:=this.2
 split at h2
 · rename_i i hi
   exact ⟨i,hi,Nat.eq_of_beq_eq_true h2⟩
 · cases h2
def BE (P:Program) (n:Nat) (l:Sl) (S:World→Prop) (op:Op) (ty:TypeId) (v:Value):Prop:=
 ∀a w dst pos after g,Env n l a→S w→(execOp a.eval ⟨dst,op,ty,pos,after,g⟩).run P w = .ok (.value v) w
section pur
variable {P:Program} {n:Nat} {l:Sl} {S:World→Prop} {ty:TypeId} {tab:Tab}
theorem Ap {x:Operand} {v:Value} (h:ev l x=some v):BE P n l S (.move x) ty v:=fun a w dst pos after g ha _=>by
 simp [execOp,ha.ev h]
theorem AA {x:Operand} {v:Value} (h:ev l x=some v):BE P n l S (.assign x) ty v:=fun a w dst pos after g ha _=>by
 simp [execOp,ha.ev h]
theorem AG {t:Nat} {d:TypeDesc} (h:P.underlying t=some d) (w:World):(underlying t).run P w = .ok d w:=by
 simp [underlying,program,Sem.run,h,bind,Sem.bind,pure]
theorem RP {t:Nat} {i:TypeInfo} (h:P.info? t=some i) (w:World):(Go.sizeOf t).run P w = .ok i.size w:=by
 simp [Go.sizeOf,typeInfo,program,Sem.run,h,bind,Sem.bind,pure]
theorem Ci {t:Nat} {s:Sk} {sz:Nat} (h:TyOk P t s sz) (w:World):(Go.sizeOf t).run P w = .ok sz w:=by
 obtain ⟨i,hi,hs⟩:=h.info
 simp [Go.sizeOf,typeInfo,program,Sem.run,hi,bind,Sem.bind,pure,hs]
theorem Aq {x:Operand} {s f b o off ft sz:Nat} {fs:List (Nat×Nat)} (T:TabOk P tab) (hx:ev l x=some (.pointer (some ⟨b,o,none⟩)))
 (ht:AL tab s=some (.struct fs,sz)) (hf:fs[f]? = some (off,ft)):BE P n l S (.fieldAddr s x f) ty (.pointer (some ⟨b,o+off,none⟩)):=fun a w dst pos after g ha _=>by
 obtain ⟨gs,h1,-,h2⟩:=(T _ _ _ ht).under
 obtain ⟨fd,h3,h4,h5,j,h6,h7⟩:=h2 f off ft hf
 have e:(Instr.fieldAt s (.pointer (some ⟨b,o,none⟩)) f).run P w = .ok (.pointer (some ⟨b,o+off,none⟩)) w:=by
  simp only [Instr.fieldAt,Sem.run_bind,AG h1,Result.andThen,h3,Instr.sureAddr,Sem.run_pure,fieldPlace,h5,h4]
  simp only [RP h6,h7,if_false,Sem.run_pure,Addr.add]
  by_cases h0:off=0
  · subst h0;simp
  · simp [h0]
 simp [execOp,ha.ev hx,e]
theorem AR {x:Operand} {s f b o ft sz:Nat} {fs:List (Nat×Nat)} (T:TabOk P tab) (hx:ev l x=some (.pointer (some ⟨b,o,none⟩)))
 (ht:AL tab s=some (.struct fs,sz)) (hf:fs[f]? = some (0,ft)):BE P n l S (.fieldAddr s x f) ty (.pointer (some ⟨b,o,none⟩)):=Aq T hx ht hf
def Sk.agg:Sk→Bool
 | .struct _ | .array _ _=>true
 | _=>false
theorem Dl {t:Nat} {s:Sk} {sz:Nat} (h:TyOk P t s sz) (w:World):(isAgg t).run P w = .ok s.agg w:=by
 have:=h.under
 cases s with
 | struct fs=>obtain ⟨gs,h1,-⟩:=this;simp [isAgg,AG h1,Result.andThen,Sk.agg]
 | func=>obtain ⟨_,_,_,h1⟩:=this;simp [isAgg,AG h1,Result.andThen,Sk.agg]
 | iface=>obtain ⟨_,h1⟩:=this;simp [isAgg,AG h1,Result.andThen,Sk.agg]
 | _=>simp [isAgg,AG this,Result.andThen,Sk.agg]
theorem Al {x:Operand} {t sz:Nat} {s:Sk} {p:Addr} {v:Value} (T:TabOk P tab) (ht:AL tab t=some (s,sz)) (hs:s.agg=false) (hx:ev l x=some (.pointer (some p)))
 (hc : ∀w,S w→w.cell? p=some v):BE P n l S (.load t x) ty v:=fun a w dst pos after g ha hS=>by
 have e:(Instr.loadAt t (.pointer (some p))).run P w = .ok v w:=by
  simp only [Instr.loadAt,Instr.sureAddr,Sem.run_bind,Sem.run_pure,Result.andThen,loadVar,Dl (T _ _ _ ht),hs]
  simp [load,Sem.run,hc w hS]
 simp [execOp,ha.ev hx,e]
def Row (w:World) (p:Addr) (vs:List Value):Prop:= ∀i v,vs[i]? = some v→w.cell? (p.add i)=some v
theorem CC {w:World} {p:Addr} {vs:List Value} (h:Row w p vs):(loadCells p vs.length).run P w = .ok vs.toArray w:=
 run_loadCells_list w p vs h
theorem IX {x:Operand} {t sz:Nat} {s:Sk} {p:Addr} {vs:List Value} (T:TabOk P tab) (ht:AL tab t=some (s,sz)) (hs:s.agg=true) (hx:ev l x=some (.pointer (some p)))
 (hl:vs.length=sz) (hc : ∀w,S w→Row w p vs):BE P n l S (.load t x) ty (.agg vs.toArray):=fun a w dst pos after g ha hS=>by
 have e:(Instr.loadAt t (.pointer (some p))).run P w = .ok (.agg vs.toArray) w:=by
  simp only [Instr.loadAt,Instr.sureAddr,Sem.run_bind,Sem.run_pure,Result.andThen,loadVar,Dl (T _ _ _ ht),hs,if_true,Ci (T _ _ _ ht)]
  rw [←hl,CC (hc w hS)]
 simp [execOp,ha.ev hx,e]
theorem BF {x:Operand} {t sz:Nat} {s:Sk} {p:Addr} {vs:List Value} (T:TabOk P tab) (ht:AL tab t=some (s,sz)) (hs:s.agg=true) (hx:ev l x=some (.pointer (some p)))
 (hc : ∀w,S w→Row w p vs) (hl:vs.length=sz):BE P n l S (.load t x) ty (.agg vs.toArray):=IX T ht hs hx hl hc
theorem A4 {x i:Operand} {t e sz szE b o len cap:Nat} {k:IntKind} {j:Int} {sE:Sk} (T:TabOk P tab) (ht:AL tab t=some (.slice e,sz)) (hE:AL tab e=some (sE,szE))
 (hx:ev l x=some (.slice (some ⟨b,o,none⟩) len cap)) (hi:ev l i=some (.int k j)) (h0:0≤j) (h1:j<len):BE P n l S (.indexAddr t x i) ty (.pointer (some ⟨b,o+j.toNat*szE,none⟩)):=fun a w dst pos after g ha _=>by
 have hu:P.underlying t=some (.slice e):=(T _ _ _ ht).under
 have e:(Instr.indexAt t (.slice (some ⟨b,o,none⟩) len cap) (.int k j)).run P w = .ok (.pointer (some ⟨b,o+j.toNat*szE,none⟩)) w:=by
  simp only [Instr.indexAt,asIntOf,Sem.run_bind,Sem.run_pure,Result.andThen,AG hu]
  simp only [h0,h1,and_self,if_true,Sem.run_bind,Ci (T _ _ _ hE),Result.andThen,Sem.run_pure,Addr.add]
  by_cases hz:j.toNat*szE=0
  · simp [hz]
  · simp [hz]
 simp [execOp,ha.ev hx,ha.ev hi,e]
theorem Bx {op:BinOp} {t:Nat} {x y:Operand} {k k':IntKind} {a b:Int} {w:World}:(eqGuard op t x y (.int k a) (.int k' b)).run P w = .ok () w:=by
 unfold eqGuard;cases op<;>simp
theorem G7 {op:BinOp} {t:Nat} {x y:Operand} {a b:ByteArray} {w:World}:(eqGuard op t x y (.string a) (.string b)).run P w = .ok () w:=by
 unfold eqGuard;cases op<;>simp
theorem Ib {α:Type} [BEq α] [LawfulBEq α] [DecidableEq α] (a b:α):(a==b)=decide (a=b):=by
 rw [Bool.eq_iff_iff];simp
section ints
variable {x y:Operand} {t t':Nat} {k:IntKind} {a b c:Int}
theorem Ed (hx:ev l x=some (.int k a)) (hy:ev l y=some (.int k b)) (hc:k.wrap (a+b)=c):BE P n l S (.binOp .add t x y t') ty (.int k c):=fun a w dst pos after g ha _=>by
 subst hc;simp [execOp,ha.ev hx,ha.ev hy,Bx,binOp,Op.intArith]
theorem Bs (hx:ev l x=some (.int k a)) (hy:ev l y=some (.int k b)) (hc:k.wrap (a-b)=c):BE P n l S (.binOp .sub t x y t') ty (.int k c):=fun a w dst pos after g ha _=>by
 subst hc;simp [execOp,ha.ev hx,ha.ev hy,Bx,binOp,Op.intArith]
theorem Tw (hx:ev l x=some (.int k a)) (hy:ev l y=some (.int k b)) (hc:k.wrap (a*b)=c):BE P n l S (.binOp .mul t x y t') ty (.int k c):=fun a w dst pos after g ha _=>by
 subst hc;simp [execOp,ha.ev hx,ha.ev hy,Bx,binOp,Op.intArith]
theorem B4 (hx:ev l x=some (.int k a)) (hy:ev l y=some (.int k b)):BE P n l S (.binOp .eql t x y t') ty (.bool (decide (a=b))):=fun a w dst pos after g ha _=>by
 simp [execOp,ha.ev hx,ha.ev hy,Bx,binOp,Op.intCmp,Ib]
theorem Ic (hx:ev l x=some (.int k a)) (hy:ev l y=some (.int k b)):BE P n l S (.binOp .neq t x y t') ty (.bool (decide (a≠b))):=fun a w dst pos after g ha _=>by
 simp [execOp,ha.ev hx,ha.ev hy,Bx,binOp,Op.intCmp,bne,Ib]
theorem CU (hx:ev l x=some (.int k a)) (hy:ev l y=some (.int k b)):BE P n l S (.binOp .lss t x y t') ty (.bool (decide (a<b))):=fun a w dst pos after g ha _=>by
 simp [execOp,ha.ev hx,ha.ev hy,Bx,binOp,Op.intCmp]
theorem Tx (hx:ev l x=some (.int k a)) (hy:ev l y=some (.int k b)):BE P n l S (.binOp .leq t x y t') ty (.bool (decide (a≤b))):=fun a w dst pos after g ha _=>by
 simp [execOp,ha.ev hx,ha.ev hy,Bx,binOp,Op.intCmp]
theorem B5 (hx:ev l x=some (.int k a)) (hy:ev l y=some (.int k b)):BE P n l S (.binOp .gtr t x y t') ty (.bool (decide (b<a))):=fun a w dst pos after g ha _=>by
 simp [execOp,ha.ev hx,ha.ev hy,Bx,binOp,Op.intCmp]
theorem Ty (hx:ev l x=some (.int k a)) (hy:ev l y=some (.int k b)):BE P n l S (.binOp .geq t x y t') ty (.bool (decide (b≤a))):=fun a w dst pos after g ha _=>by
 simp [execOp,ha.ev hx,ha.ev hy,Bx,binOp,Op.intCmp]
end ints
theorem JQ (a:List UInt8):(⟨a.toArray⟩:ByteArray).toList=a:=by
 simp [ByteArray.toList_eq]
section strs
variable {x y:Operand} {t t':Nat} {a b:List UInt8}
theorem RQ (hx:ev l x=some (str a)) (hy:ev l y=some (str b)):BE P n l S (.binOp .eql t x y t') ty (.bool (decide (a=b))):=fun _ w dst pos after g ha _=>by
 simp only [execOp,ha.ev hx,ha.ev hy,Sem.run_bind,G7,Result.andThen,binOp,Op.stringOp,Sem.run_pure,JQ,Ib]
theorem RR (hx:ev l x=some (str a)) (hy:ev l y=some (str b)):BE P n l S (.binOp .neq t x y t') ty (.bool (decide (a≠b))):=fun _ w dst pos after g ha _=>by
 simp only [execOp,ha.ev hx,ha.ev hy,Sem.run_bind,G7,Result.andThen,binOp,Op.stringOp,Sem.run_pure,JQ]
 congr 3
 by_cases h:a=b<;>simp [h]
theorem Cm {q:Bool} (hx:ev l x=some (.bool q)):BE P n l S (.unOp .not t x) ty (.bool !q):=fun _ w dst pos after g ha _=>by
 simp [execOp,ha.ev hx,Op.unary]
theorem A0 {c:Operand} {q:Bool} {u:Value} (hc:ev l c=some (.bool q)) (hx:ev l x=some u) (hq:q=true):BE P n l S (.pick c x y) ty u:=fun _ w dst pos after g ha _=>by
 subst hq
 simp [execOp,ha.ev hc,ha.ev hx,asBool]
theorem Bh {c:Operand} {q:Bool} {v:Value} (hc:ev l c=some (.bool q)) (hy:ev l y=some v) (hq:q=false):BE P n l S (.pick c x y) ty v:=fun _ w dst pos after g ha _=>by
 subst hq
 simp [execOp,ha.ev hc,ha.ev hy,asBool]
theorem BO {c:Operand} {p:Prop} [Decidable p] {u:Value} (hc:ev l c=some (.bool (decide p))) (hx:ev l x=some u) (hp:p):BE P n l S (.pick c x y) ty u:=A0 hc hx (decide_eq_true hp)
theorem Bo {c:Operand} {p:Prop} [Decidable p] {v:Value} (hc:ev l c=some (.bool (decide p))) (hy:ev l y=some v) (hp : ¬p):BE P n l S (.pick c x y) ty v:=Bh hc hy (decide_eq_false hp)
theorem MS {i:Nat} {v:Value} {vs:List Value} (hx:ev l x=some (.tuple vs.toArray)) (hi:vs[i]? = some v):BE P n l S (.extract x i) ty v:=fun _ w dst pos after g ha _=>by
 simp [execOp,ha.ev hx,Instr.extract,hi]
theorem MT (T:TabOk P tab) {sz:Nat} {pt:Bool} (ht:AL tab t=some (.str,sz)) (hx:ev l x=some (str a)):BE P n l S (.call ⟨.builtin .len,#[x],#[t]⟩) ty (.int .i64 a.length):=fun _ w dst pos after g ha _=>by
 have hu:P.underlying t=some .string:=(T _ _ _ ht).under
 have e1:(⟨a.toArray⟩:ByteArray).size=a.length:=by simp [ByteArray.size]
 simp [execOp,resolve,invoke,builtin,Builtin.len_,ha.ev hx,AG hu,Result.andThen,goInt,e1]
theorem AS (T:TabOk P tab) {e sz:Nat} {p:Option Addr} {len cap:Nat} (ht:AL tab t=some (.slice e,sz)) (hx:ev l x=some (.slice p len cap)):BE P n l S (.call ⟨.builtin .len,#[x],#[t]⟩) ty (.int .i64 len):=fun _ w dst pos after g ha _=>by
 have hu:P.underlying t=some (.slice e):=(T _ _ _ ht).under
 simp [execOp,resolve,invoke,builtin,Builtin.len_,ha.ev hx,AG hu,Result.andThen,goInt]
end strs
end pur
def Blk (w:World) (b:Nat) (vs:List Value):Prop:= ∃ty,w.heap[b]? = some (.cells vs.toArray ty (0,0))
theorem Blk.lt {w:World} {b:Nat} {vs:List Value} (h:Blk w b vs):b<w.heap.size:=by
 obtain ⟨ty,h⟩:=h
 rcases Nat.lt_or_ge b w.heap.size with h'|h'
 · exact h'
 · rw [Array.getElem?_eq_none h'] at h;cases h
theorem Blk.cell {w:World} {b i:Nat} {vs:List Value} {v:Value} (h:Blk w b vs) (hi:vs[i]? = some v):w.cell? ⟨b,i,none⟩=some v:=by
 obtain ⟨ty,h⟩:=h
 simp [World.cell?,h,hi]
theorem Blk.row {w:World} {b:Nat} {vs:List Value} (h:Blk w b vs):Row w ⟨b,0,none⟩ vs:=fun i v hi=>by
 have:(⟨b,0,none⟩:Addr).add i=⟨b,i,none⟩:=by unfold Addr.add;by_cases h0:i=0<;>simp [h0]
 rw [this];exact h.cell hi
theorem Blk.free {w:World} {b o:Nat} {vs:List Value} (h:Blk w b vs):w.frozen? ⟨b,o,none⟩=false:=by
 obtain ⟨ty,h⟩:=h
 simp [World.frozen?,h]
theorem Blk.ext {w w':World} {b:Nat} {vs:List Value} (h:Blk w b vs) (e:Ext w w'):Blk w' b vs:=by
 have hl:=h.lt
 obtain ⟨ty,h⟩:=h
 exact ⟨ty,by rw [e.block hl];exact h⟩
theorem Blk.fr {S:Nat→Prop} {w w':World} {b:Nat} {vs:List Value} (h:Blk w b vs) (e:Fr S w w') (hs : ¬S b):Blk w' b vs:=by
 have hl:=h.lt
 obtain ⟨ty,h⟩:=h
 exact ⟨ty,by rw [e.block b hl hs];exact h⟩
theorem Blk.set {w:World} {b i:Nat} {vs:List Value} (h:Blk w b vs) (v:Value):Blk (w.setCell ⟨b,i,none⟩ v) b (vs.set i v):=by
 have hl:=h.lt
 obtain ⟨ty,h⟩:=h
 refine ⟨ty,?_⟩
 simp [World.setCell,Array.getElem?_modify,h]
theorem Row.at {w:World} {b o i:Nat} {vs:List Value} {v:Value} (h:Row w ⟨b,o,none⟩ vs) (hi:vs[i]? = some v):w.cell? ⟨b,o+i,none⟩=some v:=by
 have:=h i v hi
 have e:(⟨b,o,none⟩:Addr).add i=⟨b,o+i,none⟩:=by unfold Addr.add;by_cases h0:i=0<;>simp [h0]
 rwa [e] at this
theorem Row.at0 {w:World} {b o:Nat} {vs:List Value} {v:Value} (h:Row w ⟨b,o,none⟩ vs) (hi:vs[0]? = some v):w.cell? ⟨b,o,none⟩=some v:=h.at hi
theorem Qk (p:Addr) (i:Nat):(p.add i).block=p.block:=by unfold Addr.add;split<;>rfl
theorem Ql {w:World} {p:Addr} {v:Value} (h:w.cell? p=some v):p.spot=none:=by
 unfold World.cell? at h
 split at h
 · cases hs:p.spot with
   | none=>rfl
   | some q=>simp [hs] at h
 · cases h
theorem Row.ext {w w':World} {p:Addr} {vs:List Value} (h:Row w p vs) (e:Ext w w'):Row w' p vs:=fun i v hi=>by
 have hc:=h i v hi
 have hl:=Ca hc
 rw [Below.cell e hl];exact hc
theorem Row.fr {S:Nat→Prop} {w w':World} {p:Addr} {vs:List Value} (h:Row w p vs) (e:Fr S w w') (hs : ¬S p.block):Row w' p vs:=fun i v hi=>by
 have hc:=h i v hi
 have hl:=Ca hc
 rw [World.cell?_of_block (w:=w) (e.block _ hl (by rw [Qk];exact hs))];exact hc
structure New (w w1:World) (b:Nat) (vs:List Value):Prop where
 pos:b=w.heap.size
 blk:Blk w1 b vs
 ext:Ext w w1
 size:w1.heap.size=b+1
theorem Er (w:World) (vs:List Value) (ty:TypeId):New w (w.alloc (.cells vs.toArray ty (0,0))) w.heap.size vs:=
 ⟨rfl,⟨ty,by show (w.heap.push _)[w.heap.size]? = _;simp⟩,(Ext.refl w).alloc _,by show (w.heap.push _).size=_;simp⟩
def Bp:List Value→Nat→List Value→List Value
 | vs,_,[]=>vs
 | vs,o,u::r=>Bp (vs.set o u) (o+1) r
structure Put (w w1:World) (b:Nat) (vs:List Value):Prop where
 blk:Blk w1 b vs
 fr:Fr (· = b) w w1
 size:w1.heap.size=w.heap.size
def Value.one:Value→Bool
 | .agg _ | .tuple _=>false
 | _=>true
theorem Lr {P:Program} {w:World} {b o:Nat} {vs:List Value} (h:Blk w b vs) (ho:o<vs.length) {v:Value} (hv:Value.one v=true) {α:Type} (k:Sem α) :
 (Sem.store .plain ⟨b,o,none⟩ v k).run P w=k.run P (w.setCell ⟨b,o,none⟩ v):=by
 have hc:=h.cell (List.getElem?_eq_getElem ho)
 have hz:=h.free (o:=o)
 cases v<;>first|(simp [Value.one] at hv;done)|simp [Sem.run,hc,hz]
theorem Fb {P:Program} : ∀(us:List Value) (w:World) (b o i:Nat) (vs:List Value),Blk w b vs→o+i+us.length≤vs.length→us.all Value.one=true →
 ∃w1,(storeCells ⟨b,o,none⟩ us i).run P w = .ok () w1∧Put w w1 b (Bp vs (o+i) us)
 | [],w,b,o,i,vs,h,_,_=>⟨w,rfl,h,Fr.refl _ _,rfl⟩
 | u::r,w,b,o,i,vs,h,hl,hv=>by
  simp only [List.length_cons] at hl
  simp only [List.all_cons,Bool.and_eq_true] at hv
  have ha:(⟨b,o,none⟩:Addr).add i=⟨b,o+i,none⟩:=by unfold Addr.add;by_cases h0:i=0<;>simp [h0]
  have e:(storeCells ⟨b,o,none⟩ (u::r) i).run P w=(storeCells ⟨b,o,none⟩ r (i+1)).run P (w.setCell ⟨b,o+i,none⟩ u):=by
   simp only [storeCells,store,ha,bind,Sem.bind]
   exact Lr h (by omega) hv.1 _
  obtain ⟨w1,h1,h2⟩:=Fb (P:=P) r _ b o (i+1) _ (h.set (i:=o+i) u) (by simp;omega) hv.2
  refine ⟨w1,by rw [e,h1],h2.blk,((Fr.refl (· = b) w).setCell ⟨b,o+i,none⟩ u (Or.inl rfl)).trans h2.fr,?_⟩
  rw [h2.size];simp [World.setCell]
theorem Bv {o:Oper} {y:Nat→Option Bool} (h:o.guard=none):Region.wanted o y=true:=by unfold Region.wanted;rw [h]
section seqs
variable {P:Program} {n:Nat} {ops:Array Oper} {Q:Exit→Act→World→Prop} {rest:List Oper} {l:Sl} {w:World} {tab:Tab}
 {d:Nat} {ty:TypeId} {pos:String} {after:Array Edge}
theorem Aj (h:QW n Q .normal l w):LW P n ops Q [] l w:=h
theorem Ab {op:Op} {v:Value} (hp:BE P n l (fun x=>x=w) op ty v) (hd:Nat.blt d n=true) (k:LW P n ops Q rest ((d,v)::l) w) :
 LW P n ops Q (⟨some d,op,ty,pos,after,none⟩::rest) l w:=fun a ha=>by
 unfold wpList
 rw [if_pos (Bv rfl)]
 left
 unfold Oper.wp
 rw [hp a w _ _ _ _ ha rfl]
 exact k _ (ha.put hd v)
def BX (ops:Array Oper) (j:Nat):Option Nat:=(ops.toList[j]?).bind (·.dst)
theorem FP {n:Nat} {l:Sl} {a:Act} (ha:Env n l a) {ops:Array Oper} {j dj:Nat} {want b:Bool} {o:Oper} (hg:o.guard=some (j,want)) (hj:BX ops j=some dj) (hn:Nat.blt dj n=true) (hb:look l dj=some (.bool b)) :
 Region.wanted o (yielded ops a.tmps)=(b==want):=by
 have h1:=ha.has dj _ hb
 have hn':dj<a.tmps.size:=by rw [ha.size];exact Nat.le_of_ble_eq_true hn
 have h2:a.tmps[dj]? = some (.bool b):=by
  rw [Array.getD_eq_getD_getElem?,Array.getElem?_eq_getElem hn'] at h1
  rw [Array.getElem?_eq_getElem hn']
  simpa using h1
 have h3:(ops[j]?).bind (·.dst)=some dj:=by simpa [BX] using hj
 unfold Region.wanted yielded
 simp only [hg,h3,Option.bind_some,h2]
 cases b<;>cases want<;>rfl
theorem By {op:Op} {j dj:Nat} {want b:Bool} (hj:BX ops j=some dj) (hn:Nat.blt dj n=true) (hb:look l dj=some (.bool b)) (hw:(b==want)=false) (hd:Nat.blt d n=true)
 (k:LW P n ops Q rest ((d,undef)::l) w):LW P n ops Q (⟨some d,op,ty,pos,after,some (j,want)⟩::rest) l w:=fun a ha=>by
 unfold wpList
 rw [FP ha rfl hj hn hb,hw]
 exact k _ (ha.put hd undef)
theorem BR {op:Op} {j dj:Nat} {want b:Bool} (hj:BX ops j=some dj) (hn:Nat.blt dj n=true) (hb:look l dj=some (.bool b)) (hw:(b==want)=true)
 (k:LW P n ops Q (⟨some d,op,ty,pos,after,none⟩::rest) l w):LW P n ops Q (⟨some d,op,ty,pos,after,some (j,want)⟩::rest) l w:=fun a ha=>by
 have:=k a ha
 unfold wpList at this ⊢
 rw [if_pos (by rw [FP ha rfl hj hn hb,hw])]
 rw [if_pos (Bv rfl)] at this
 exact this
section guards
variable {op:Op} {j dj:Nat} {p:Prop} [Decidable p]
theorem AV (hj:BX ops j=some dj) (hn:Nat.blt dj n=true) (hb:look l dj=some (.bool (decide p))) (hp : ¬p)
 (k:LW P n ops Q (⟨some d,op,ty,pos,after,none⟩::rest) l w):LW P n ops Q (⟨some d,op,ty,pos,after,some (j,false)⟩::rest) l w:=BR hj hn hb (by simp [hp]) k
theorem A7 (hj:BX ops j=some dj) (hn:Nat.blt dj n=true) (hb:look l dj=some (.bool (decide p))) (hp:p) (hd:Nat.blt d n=true)
 (k:LW P n ops Q rest ((d,undef)::l) w):LW P n ops Q (⟨some d,op,ty,pos,after,some (j,false)⟩::rest) l w:=By hj hn hb (by simp [hp]) hd k
end guards
def Cj (P:Program) (n:Nat) (l:Sl) (op:Op) (ty:TypeId) (w:World) (K:Option Value→World→Prop):Prop:=
 ∀a dst pos after g (next:Act→World→Prop) (Q:Exit→Act→World→Prop),Env n l a→(∀v w',K (some v) w'→next (a.put dst v) w')→(∀w',K none w'→next (a.put dst undef) w')→(⟨dst,op,ty,pos,after,g⟩:Oper).wp P a w next Q
theorem AQ {op:Op} {K:Option Value→World→Prop} (hp:Cj P n l op ty w K) (hd:Nat.blt d n=true) (k : ∀v w1,K (some v) w1→LW P n ops Q rest ((d,v)::l) w1) (k0 : ∀w1,¬K none w1) :
 LW P n ops Q (⟨some d,op,ty,pos,after,none⟩::rest) l w:=fun a ha=>by
 unfold wpList
 rw [if_pos (Bv rfl)]
 left
 exact hp a _ _ _ _ _ _ ha (fun v w1 hK=>k v w1 hK _ (ha.put hd v)) (fun w1 h=>absurd h (k0 w1))
theorem Br {op:Op} {K:Option Value→World→Prop} (hp:Cj P n l op ty w K) (k : ∀v w1,K v w1→LW P n ops Q rest l w1) :
 LW P n ops Q (⟨none,op,ty,pos,after,none⟩::rest) l w:=fun a ha=>by
 unfold wpList
 rw [if_pos (Bv rfl)]
 left
 exact hp a _ _ _ _ _ _ ha (fun v w1 hK=>k _ w1 hK _ ha) (fun w1 h=>k _ w1 h _ ha)
end seqs
section does
variable {P:Program} {n:Nat} {l:Sl} {w:World} {tab:Tab} {ty:TypeId}
def UT (w:World) (vs:List Value):Option Value→World→Prop
 | some v,w1=> ∃b,v = .pointer (some ⟨b,0,none⟩)∧New w w1 b vs
 | none,_=>False
theorem Gy {x:Operand} {t:Nat} {v:Value} {vs:List Value} (hx:ev l x=some v) (hv:v.cells=vs.toArray):Cj P n l (.box t x) ty w (UT w vs):=fun a dst pos after g next Q ha hn _=>by
 have e:(execOp a.eval ⟨dst,.box t x,ty,pos,after,g⟩).run P w = .ok (.value (.pointer (some ⟨w.heap.size,0,none⟩))) (w.alloc (.cells vs.toArray t (0,0))):=by
  simp [execOp,ha.ev hx,Instr.box,newVar,newRow,newObj,Sem.run,hv,bind,Sem.bind,pure]
 unfold Oper.wp
 rw [e]
 exact hn _ _ ⟨_,rfl,Er _ _ _⟩
abbrev EL:=List (Nat×List Value)
def CO (P:Program):EL→Prop
 | []=>True
 | p::r=>((P.info? p.1).bind (·.zero)).map Value.cells=some p.2.toArray∧CO P r
def Dx:EL→Nat→Option (List Value)
 | [],_=>none
 | p::r,t=>match Nat.beq p.1 t with
  | true=>some p.2
  | false=>Dx r t
theorem Fc {zt:EL} (h:CO P zt) {t:Nat} {vs:List Value} (hl:Dx zt t=some vs) : ∃i v,P.info? t=some i∧i.zero=some v∧v.cells=vs.toArray:=by
 induction zt with
 | nil=>simp [Dx] at hl
 | cons p r ih=>
  simp only [Dx] at hl
  split at hl
  · rename_i hb
    have:=Nat.eq_of_beq_eq_true hb
    simp only [Option.some.injEq] at hl
    subst hl this
    have h1:=h.1
    cases hi:P.info? p.1 with
    | none=>rw [hi] at h1;simp at h1
    | some i=>
     rw [hi] at h1
     cases hz:i.zero with
     | none=>simp [hz] at h1
     | some v=>exact ⟨i,v,rfl,hz,by simpa [hz] using h1⟩
  · exact ih h.2 hl
theorem BG {zt:EL} {t:Nat} {vs:List Value} (Z:CO P zt) (hz:Dx zt t=some vs):Cj P n l (.alloc t) ty w (UT w vs):=fun a dst pos after g next Q ha hn _=>by
 obtain ⟨i,v,h1,h2,h3⟩:=Fc Z hz
 have e:(execOp a.eval ⟨dst,.alloc t,ty,pos,after,g⟩).run P w = .ok (.value (.pointer (some ⟨w.heap.size,0,none⟩))) (w.alloc (.cells vs.toArray t (0,0))):=by
  simp [execOp,Instr.alloc,zeroValue,typeInfo,program,newVar,newRow,newObj,Sem.run,h1,h2,h3,bind,Sem.bind,pure]
 unfold Oper.wp
 rw [e]
 exact hn _ _ ⟨_,rfl,Er _ _ _⟩
def VP (w:World) (b:Nat) (vs:List Value):Option Value→World→Prop
 | none,w1=>Put w w1 b vs
 | some _,_=>False
theorem Ga {x y:Operand} {t sz b o:Nat} {s:Sk} {v:Value} {vs us:List Value} (T:TabOk P tab) (ht:AL tab t=some (s,sz)) (hx:ev l x=some (.pointer (some ⟨b,o,none⟩))) (hy:ev l y=some v)
 (hv:v.cells=us.toArray) (hl:us.length=sz) (h1:us.all Value.one=true) (hb:Blk w b vs) (ho:Nat.ble (o+us.length) vs.length=true):Cj P n l (.store t x y) ty w (VP w b (Bp vs o us)):=fun a dst pos after g next Q ha _ hn=>by
 obtain ⟨w1,e1,e2⟩:=Fb (P:=P) us w b o 0 vs hb (by simpa using ho) h1
 have e:(execOp a.eval ⟨dst,.store t x y,ty,pos,after,g⟩).run P w = .ok .skip w1:=by
  have hcs:v.cells.toList=us:=by rw [hv]
  have hsz:v.cells.size=sz:=by rw [hv];simpa using hl
  simp only [execOp,ha.ev hx,ha.ev hy,Instr.storeAt,Instr.sureAddr,Sem.run_bind,Sem.run_pure,Result.andThen,storeVar,Ci (T _ _ _ ht),hsz,hcs,e1]
  simp only [ne_eq,not_true,if_false,Sem.run_bind,Sem.run_pure,Result.andThen,e1]
 unfold Oper.wp
 rw [e]
 exact hn _ e2
def CV (P:Program) (f:FuncId):Bool:=match P.funcs[f]? with
 | some fn=> !(fn.name == "runtime.NumGoroutine")&&fn.body.isSome
 | none=>false
theorem Ee {f:FuncId} {args:Array Value} (hb:CV P f=true) (w:World):(callFunc f args).run P w = .ok (.enter f args) w:=by
 unfold CV at hb
 split at hb
 · rename_i fn hf
   simp only [Bool.and_eq_true,Bool.not_eq_true',Option.isSome_iff_ne_none] at hb
   have h2:fn.body.isNone=false:=by cases h:fn.body<;>simp_all
   have h1:fn.name ≠ "runtime.NumGoroutine" := by simpa using hb.1
   simp [callFunc,program,Sem.run,hf,bind,Sem.bind,h1,hb.2,pure]
 · cases hb
def VQ (R:Ending→World→Prop):Option Value→World→Prop
 | some v,w1=>R (.returned v) w1
 | none,_=>False
theorem Av {f:FuncId} {xs:List Operand} {tys:Array TypeId} {vs:List Value} {R:Ending→World→Prop} (hb:CV P f=true) (hxs:evs l xs=some vs) (C:Calls P f vs.toArray w R)
 (hR : ∀e w1,R e w1 → ∃v,e = .returned v):Cj P n l (.call ⟨.value (.func f),xs.toArray,tys⟩) ty w (VQ R):=fun a dst pos after g next Q ha hn _=>by
 have hargs:xs.map a.eval=vs:=ha.evs hxs
 have e:(execOp a.eval ⟨dst,.call ⟨.value (.func f),xs.toArray,tys⟩,ty,pos,after,g⟩).run P w = .ok (.enter f vs.toArray) w:=by
  simp only [execOp,resolve,Act.eval,Deferred.ofValue,Sem.run_bind,Sem.run_pure,Result.andThen,invoke]
  rw [Ee hb]
  simp [←hargs]
 unfold Oper.wp
 rw [e]
 refine Calls.mono C fun e w1 h=>?_
 obtain ⟨v,rfl⟩:=hR e w1 h
 exact hn v w1 h
theorem BQ {f:FuncId} {x:Operand} {fi ca:List Value} {xs:List Operand} {tys:Array TypeId} {vs:List Value} {R:Ending→World→Prop} (hb:CV P f=true) (hx:ev l x=some (.func (.func f) fi.toArray ca.toArray)) (hxs:evs l xs=some vs) (C:Calls P f (fi++vs++ca).toArray w R)
 (hR : ∀e w1,R e w1 → ∃v,e = .returned v):Cj P n l (.call ⟨.value x,xs.toArray,tys⟩) ty w (VQ R):=fun a dst pos after g next Q ha hn _=>by
 have hargs:xs.map a.eval=vs:=ha.evs hxs
 have e:(execOp a.eval ⟨dst,.call ⟨.value x,xs.toArray,tys⟩,ty,pos,after,g⟩).run P w = .ok (.enter f (fi++vs++ca).toArray) w:=by
  simp only [execOp,resolve,ha.ev hx,Deferred.ofValue,Sem.run_bind,Sem.run_pure,Result.andThen,invoke]
  rw [Ee hb]
  simp [←hargs]
 unfold Oper.wp
 rw [e]
 refine Calls.mono C fun e w1 h=>?_
 obtain ⟨v,rfl⟩:=hR e w1 h
 exact hn v w1 h
end does
inductive Sch where
 | done
 | pure (i:Nat) (r:Sch)
 | fork (i:Nat) (x r:Sch)
 | none
def Sch.alts:Sch→List Nat
 | .fork i _ r=>i::r.alts
 | _=>[]
def Sch.ok (ops:Array Oper):Bool→Sch→Nat→Array Bool→Bool
 | true,.done,_,listed=>(Region.ready .any ops listed).isEmpty
 | true,.pure i r,f+1,listed=>(Region.ready .any ops listed).contains i&&Region.free .any ops listed i&&Sch.ok ops true r f (listed.setIfInBounds i true)
 | true,.fork i x r,f+1,listed=>(Region.ready .any ops listed).all (fun j=>(i::r.alts).contains j)&&Sch.ok ops true x f (listed.setIfInBounds i true)&&Sch.ok ops false r (f+1) listed && !(Region.ready .any ops listed).isEmpty
 | false,.fork i x r,f+1,listed=>Sch.ok ops true x f (listed.setIfInBounds i true)&&Sch.ok ops false r (f+1) listed
 | false,.none,_,_=>true
 | _,_,_,_=>false
def HW (P:Program) (ops:Array Oper) (Q:Exit→Act→World→Prop) (S:World→Prop):Sch→Act→World→Prop
 | .done,a,w=>Q .normal a w
 | .pure i r,a,w=> ∃o v,ops.toList[i]? = some o∧YieldsIf P ops S o v a∧HW P ops Q S r (a.put o.dst v) w
 | .fork i x r,a,w=>wpOp P ops Q i (fun a' w'=>S w'∧HW P ops Q S x a' w') a w∧HW P ops Q S r a w
 | .none,_,_=>True
def DI (Q:Exit→Act→World→Prop):Prop:= ∀d v c a w,Q (.panic c) (Act.put a d v) w→Q (.panic c) a w
theorem Ak {P:Program} {fn:Func} {R:Ending→World→Prop}:DI (bodyPost P fn R):=fun d v c a w h=>by
 cases d<;>exact h
theorem Ac {K:Act→World→Prop} {Q:Exit→Act→World→Prop} (h:DI Q):DI (Exit.then K Q):=h
theorem Ao {i:Nat} {Q:Exit→Act→World→Prop} (h:DI Q):DI (Exit.inBlock i Q):=h
theorem HW.any {P:Program} {ops:Array Oper} {Q:Exit→Act→World→Prop} {S:World→Prop} (hs:Region.noSelect ops=true) (hQ:DI Q) :
 ∀(s:Sch) (f:Nat) (listed:Array Bool) (a:Act) (w:World),S w→HW P ops Q S s a w →
  (Sch.ok ops true s f listed=true→wpAnyH P .any ops Q S f listed a w) ∧
  (Sch.ok ops false s f listed=true → ∀i∈s.alts,∀f',f=f'+1→wpOp P ops Q i (fun a' w'=>S w'∧wpAnyH P .any ops Q S f' (listed.setIfInBounds i true) a' w') a w)
 | .done,f,listed,a,w,hS,h=>⟨fun hk=>wpAnyH_done (by simpa [Sch.ok] using hk) h f,fun hk=>by simp [Sch.ok] at hk⟩
 | .none,f,listed,a,w,hS,h=>⟨fun hk=>by simp [Sch.ok] at hk,fun hk=>by simp [Sch.alts]⟩
 | .pure i r,0,listed,a,w,hS,h=>⟨fun hk=>by simp [Sch.ok] at hk,fun hk=>by simp [Sch.ok] at hk⟩
 | .pure i r,f+1,listed,a,w,hS,h=>⟨fun hk=>by
  simp only [Sch.ok,Bool.and_eq_true] at hk
  obtain ⟨o,v,ho,hy,hr⟩:=h
  exact wpAnyH_take (by simpa using ho) hs hk.1.2 hk.1.1 (fun c a w=>hQ o.dst v c a w) hy hS ((HW.any hs hQ r f _ _ w hS hr).1 hk.2),fun hk=>by simp [Sch.ok] at hk⟩
 | .fork i x r,0,listed,a,w,hS,h=>⟨fun hk=>by simp [Sch.ok] at hk,fun hk=>by simp [Sch.ok] at hk⟩
 | .fork i x r,f+1,listed,a,w,hS,h=>by
  have key:Sch.ok ops true x f (listed.setIfInBounds i true)=true→wpOp P ops Q i (fun a' w'=>S w'∧wpAnyH P .any ops Q S f (listed.setIfInBounds i true) a' w') a w:=fun hk=>
   wpOp_mono (fun a' w' h'=>⟨h'.1,(HW.any hs hQ x f _ a' w' h'.1 h'.2).1 hk⟩) h.1
  have hr:=HW.any hs hQ r (f+1) listed a w hS h.2
  refine ⟨fun hk=>?_,fun hk j hj f' hf=>?_⟩
  · simp only [Sch.ok,Bool.and_eq_true] at hk
    obtain ⟨⟨⟨h1,h2⟩,h3⟩,h4⟩:=hk
    refine wpAnyH_all (rs:=Region.ready .any ops listed) rfl (by intro e;simp [e] at h4) (fun j hj=>?_)
    have:=List.all_eq_true.1 h1 j hj
    simp only [List.contains_eq_mem,List.mem_cons,decide_eq_true_eq] at this
    rcases this with rfl|hj'
    · exact key h2
    · exact hr.2 h3 j hj' f rfl
  · simp only [Sch.ok,Bool.and_eq_true] at hk
    obtain rfl:f=f':=by omega
    simp only [Sch.alts,List.mem_cons] at hj
    rcases hj with rfl|hj
    · exact key hk.1
    · exact hr.2 hk.2 j hj f rfl
def DW (P:Program) (n:Nat) (ops:Array Oper) (Q:Exit→Act→World→Prop) (S:World→Prop) (s:Sch) (l:Sl) (w:World):Prop:= ∀a,Env n l a→HW P ops Q S s a w
section draws
variable {P:Program} {n:Nat} {ops:Array Oper} {Q:Exit→Act→World→Prop} {S:World→Prop} {l:Sl} {w:World}
 {d i:Nat} {ty:TypeId} {pos:String} {after:Array Edge} {r x:Sch}
end draws
theorem Bi {P:Program} {n:Nat} {c:Operand} {x y:Code} {Q:Exit→Act→World→Prop} {l:Sl} {w:World} (h:CW P n (.cond c x y) Q l w):CW P n (.cond c x y) Q l w:=h
theorem Ag {P:Program} {n d:Nat} {ops:Array Oper} {Q:Exit→Act→World→Prop} {op:Op} {ty:TypeId} {pos:String} {after:Array Edge} {rest:List Oper} {l:Sl} {w:World} (h:LW P n ops Q (⟨some d,op,ty,pos,after,none⟩::rest) l w):LW P n ops Q (⟨some d,op,ty,pos,after,none⟩::rest) l w:=h
theorem Ay {P:Program} {n d:Nat} {ops:Array Oper} {Q:Exit→Act→World→Prop} {op:Op} {ty:TypeId} {pos:String} {after:Array Edge} {g:Nat×Bool} {rest:List Oper} {l:Sl} {w:World} (h:LW P n ops Q (⟨some d,op,ty,pos,after,some g⟩::rest) l w):LW P n ops Q (⟨some d,op,ty,pos,after,some g⟩::rest) l w:=h
attribute [irreducible] CW LW QW DW BE Cj
open Go.Proofs
def tab:Tab:=[(1,.func,1),
 (2,.int .i64,1),
 (3,.int .i64,1),
 (4,.bool,1),
 (5,.int .u8,1),
 (6,.int .u8,1),
 (7,.struct [(0,2),(1,3),(2,4),(3,6)],4),
 (8,.struct [(0,2),(1,3),(2,4),(3,6)],4),
 (9,.str,1),
 (10,.str,1),
 (11,.str,1),
 (12,.int .u64,1),
 (13,.struct [(0,9),(1,12)],2),
 (14,.struct [(0,9),(1,12)],2),
 (15,.ptr 265,1),
 (16,.ptr 268,1),
 (17,.ptr 275,1),
 (18,.struct [(0,17)],1),
 (19,.struct [(0,17)],1),
 (20,.iface,1),
 (21,.int .i32,1),
 (22,.slice 66,1),
 (23,.slice 59,1),
 (24,.slice 26,1),
 (25,.struct [(0,5),(1,3),(2,9),(3,24)],4),
 (26,.struct [(0,5),(1,3),(2,9),(3,24)],4),
 (27,.struct [(0,22),(1,23),(2,26)],6),
 (28,.struct [(0,22),(1,23),(2,26)],6),
 (29,.slice 30,1),
 (30,.slice 3,1),
 (31,.struct [(0,29),(1,30),(2,30)],3),
 (32,.struct [(0,29),(1,30),(2,30)],3),
 (33,.int .u16,1),
 (34,.func,1),
 (35,.func,1),
 (36,.func,1),
 (37,.slice 63,1),
 (38,.func,1),
 (39,.func,1),
 (40,.int .i64,1),
 (42,.func,1),
 (43,.func,1),
 (44,.struct [(0,32),(3,3),(4,40)],5),
 (45,.struct [(0,32),(3,3),(4,40)],5),
 (46,.func,1),
 (47,.func,1),
 (48,.func,1),
 (49,.func,1),
 (51,.func,1),
 (53,.func,1),
 (54,.func,1),
 (55,.func,1),
 (56,.func,1),
 (57,.func,1),
 (58,.struct [(0,9),(1,22),(2,26)],6),
 (59,.struct [(0,9),(1,22),(2,26)],6),
 (60,.func,1),
 (61,.func,1),
 (62,.struct [(0,3),(1,30),(2,40),(3,9)],4),
 (63,.struct [(0,3),(1,30),(2,40),(3,9)],4),
 (64,.func,1),
 (65,.struct [(0,9),(1,5),(2,3)],3),
 (66,.struct [(0,9),(1,5),(2,3)],3),
 (67,.func,1),
 (68,.func,1),
 (69,.func,1),
 (70,.func,1),
 (71,.func,1),
 (72,.func,1),
 (73,.func,1),
 (75,.func,1),
 (76,.func,1),
 (77,.slice 164,1),
 (78,.func,1),
 (79,.func,1),
 (80,.func,1),
 (81,.ptr 86,1),
 (82,.func,1),
 (83,.slice 128,1),
 (84,.map 9 5,1),
 (85,.struct [(0,83),(1,3),(2,3),(3,84),(4,3),(5,40)],6),
 (86,.struct [(0,83),(1,3),(2,3),(3,84),(4,3),(5,40)],6),
 (87,.func,1),
 (88,.func,1),
 (89,.func,1),
 (90,.func,1),
 (92,.func,1),
 (93,.func,1),
 (94,.ptr 3,1),
 (96,.func,1),
 (97,.func,1),
 (98,.func,1),
 (99,.func,1),
 (100,.func,1),
 (101,.func,1),
 (102,.func,1),
 (103,.func,1),
 (104,.func,1),
 (105,.ptr 148,1),
 (107,.func,1),
 (108,.ptr 110,1),
 (109,.struct [(0,28),(6,105),(7,3),(8,3),(9,30)],10),
 (110,.struct [(0,28),(6,105),(7,3),(8,3),(9,30)],10),
 (111,.func,1),
 (112,.ptr 115,1),
 (113,.slice 1,1),
 (114,.struct [(0,113),(1,4)],2),
 (115,.struct [(0,113),(1,4)],2),
 (116,.func,1),
 (117,.func,1),
 (118,.func,1),
 (119,.func,1),
 (120,.func,1),
 (122,.func,1),
 (123,.func,1),
 (124,.slice 5,1),
 (125,.func,1),
 (126,.func,1),
 (127,.struct [(0,5),(1,9),(2,3)],3),
 (128,.struct [(0,5),(1,9),(2,3)],3),
 (129,.func,1),
 (130,.func,1),
 (131,.func,1),
 (132,.func,1),
 (133,.func,1),
 (134,.func,1),
 (135,.func,1),
 (136,.func,1),
 (137,.func,1),
 (138,.map 9 4,1),
 (139,.func,1),
 (140,.ptr 174,1),
 (142,.func,1),
 (143,.slice 150,1),
 (144,.struct [(0,22),(1,143),(2,3)],3),
 (145,.struct [(0,22),(1,143),(2,3)],3),
 (146,.slice 145,1),
 (147,.struct [(0,145),(3,146),(4,140)],5),
 (148,.struct [(0,145),(3,146),(4,140)],5),
 (149,.func,1),
 (150,.ptr 152,1),
 (151,.struct [(0,30)],1),
 (152,.struct [(0,30)],1),
 (153,.func,1),
 (154,.func,1),
 (155,.struct [(0,40)],1),
 (156,.struct [(0,40)],1),
 (158,.func,1),
 (159,.func,1),
 (160,.func,1),
 (161,.func,1),
 (163,.func,1),
 (164,.struct [(0,3),(1,30),(2,40),(3,9)],4),
 (165,.array 43 9,43),
 (166,.func,1),
 (167,.func,1),
 (168,.func,1),
 (169,.func,1),
 (170,.slice 55,1),
 (171,.func,1),
 (172,.func,1),
 (173,.struct [(0,30),(1,30)],2),
 (174,.struct [(0,30),(1,30)],2),
 (175,.ptr 145,1),
 (176,.func,1),
 (177,.func,1),
 (178,.func,1),
 (179,.func,1),
 (180,.func,1),
 (181,.func,1),
 (182,.func,1),
 (183,.func,1),
 (185,.func,1),
 (187,.func,1),
 (188,.func,1),
 (189,.slice 9,1),
 (190,.func,1),
 (191,.func,1),
 (192,.func,1),
 (194,.func,1),
 (196,.func,1),
 (197,.func,1),
 (199,.func,1),
 (200,.func,1),
 (201,.func,1),
 (202,.func,1),
 (203,.func,1),
 (204,.struct [(0,26),(4,3),(5,4)],6),
 (205,.struct [(0,26),(4,3),(5,4)],6),
 (206,.func,1),
 (207,.func,1),
 (208,.func,1),
 (210,.func,1),
 (211,.slice 205,1),
 (212,.func,1),
 (213,.func,1),
 (214,.func,1),
 (215,.func,1),
 (216,.iface,1),
 (217,.iface,1),
 (219,.func,1),
 (220,.func,1),
 (221,.func,1),
 (222,.ptr 30,1),
 (223,.func,1),
 (224,.func,1),
 (225,.func,1),
 (226,.func,1),
 (227,.func,1),
 (228,.int .i64,1),
 (230,.func,1),
 (231,.ptr 241,1),
 (232,.func,1),
 (233,.func,1),
 (234,.func,1),
 (235,.int .u64,1),
 (237,.func,1),
 (238,.int .u64,1),
 (239,.func,1),
 (240,.struct [(0,9),(1,9),(2,217)],3),
 (241,.struct [(0,9),(1,9),(2,217)],3),
 (242,.func,1),
 (243,.func,1),
 (244,.ptr 5,1),
 (245,.ptr 247,1),
 (246,.struct [(0,9)],1),
 (247,.struct [(0,9)],1),
 (248,.func,1),
 (249,.func,1),
 (250,.array 24 5,24),
 (251,.func,1),
 (252,.func,1),
 (254,.func,1),
 (255,.func,1),
 (256,.array 20 235,20),
 (257,.int .u32,1),
 (259,.func,1),
 (260,.func,1),
 (261,.func,1),
 (262,.array 32 5,32),
 (263,.array 64 5,64),
 (264,.struct [(0,17),(1,17),(2,17),(3,9)],4),
 (265,.struct [(0,17),(1,17),(2,17),(3,9)],4),
 (266,.array 0 16,0),
 (269,.int .u8,1),
 (270,.int .u8,1),
 (271,.func,1),
 (272,.int .i32,1),
 (273,.int .i32,1),
 (274,.struct [(0,12),(1,12),(2,257),(3,269),(4,5),(5,5),(6,270),(7,271),(8,244),(9,272),(10,273)],11),
 (275,.struct [(0,12),(1,12),(2,257),(3,269),(4,5),(5,5),(6,270),(7,271),(8,244),(9,272),(10,273)],11)]
def zt:EL:=[(1,[.nilFunc]),
 (2,[.int .i64 0]),
 (3,[.int .i64 0]),
 (4,[.bool false]),
 (5,[.int .u8 0]),
 (6,[.int .u8 0]),
 (7,[.int .i64 0,.int .i64 0,.bool false,.int .u8 0]),
 (8,[.int .i64 0,.int .i64 0,.bool false,.int .u8 0]),
 (9,[.string ⟨#[]⟩]),
 (10,[.string ⟨#[]⟩]),
 (11,[.string ⟨#[]⟩]),
 (12,[.int .u64 0]),
 (13,[.string ⟨#[]⟩,.int .u64 0]),
 (14,[.string ⟨#[]⟩,.int .u64 0]),
 (15,[.pointer none]),
 (16,[.pointer none]),
 (17,[.pointer none]),
 (18,[.pointer none]),
 (19,[.pointer none]),
 (20,[.nilIface]),
 (21,[.int .i32 0]),
 (22,[.slice none 0 0]),
 (23,[.slice none 0 0]),
 (24,[.slice none 0 0]),
 (25,[.int .u8 0,.int .i64 0,.string ⟨#[]⟩,.slice none 0 0]),
 (26,[.int .u8 0,.int .i64 0,.string ⟨#[]⟩,.slice none 0 0]),
 (27,[.slice none 0 0,.slice none 0 0,.int .u8 0,.int .i64 0,.string ⟨#[]⟩,.slice none 0 0]),
 (28,[.slice none 0 0,.slice none 0 0,.int .u8 0,.int .i64 0,.string ⟨#[]⟩,.slice none 0 0]),
 (29,[.slice none 0 0]),
 (30,[.slice none 0 0]),
 (31,[.slice none 0 0,.slice none 0 0,.slice none 0 0]),
 (32,[.slice none 0 0,.slice none 0 0,.slice none 0 0]),
 (33,[.int .u16 0]),
 (34,[.nilFunc]),
 (35,[.nilFunc]),
 (36,[.nilFunc]),
 (37,[.slice none 0 0]),
 (38,[.nilFunc]),
 (39,[.nilFunc]),
 (40,[.int .i64 0]),
 (42,[.nilFunc]),
 (43,[.nilFunc]),
 (44,[.slice none 0 0,.slice none 0 0,.slice none 0 0,.int .i64 0,.int .i64 0]),
 (45,[.slice none 0 0,.slice none 0 0,.slice none 0 0,.int .i64 0,.int .i64 0]),
 (46,[.nilFunc]),
 (47,[.nilFunc]),
 (48,[.nilFunc]),
 (49,[.nilFunc]),
 (51,[.nilFunc]),
 (53,[.nilFunc]),
 (54,[.nilFunc]),
 (55,[.nilFunc]),
 (56,[.nilFunc]),
 (57,[.nilFunc]),
 (58,[.string ⟨#[]⟩,.slice none 0 0,.int .u8 0,.int .i64 0,.string ⟨#[]⟩,.slice none 0 0]),
 (59,[.string ⟨#[]⟩,.slice none 0 0,.int .u8 0,.int .i64 0,.string ⟨#[]⟩,.slice none 0 0]),
 (60,[.nilFunc]),
 (61,[.nilFunc]),
 (62,[.int .i64 0,.slice none 0 0,.int .i64 0,.string ⟨#[]⟩]),
 (63,[.int .i64 0,.slice none 0 0,.int .i64 0,.string ⟨#[]⟩]),
 (64,[.nilFunc]),
 (65,[.string ⟨#[]⟩,.int .u8 0,.int .i64 0]),
 (66,[.string ⟨#[]⟩,.int .u8 0,.int .i64 0]),
 (67,[.nilFunc]),
 (68,[.nilFunc]),
 (69,[.nilFunc]),
 (70,[.nilFunc]),
 (71,[.nilFunc]),
 (72,[.nilFunc]),
 (73,[.nilFunc]),
 (75,[.nilFunc]),
 (76,[.nilFunc]),
 (77,[.slice none 0 0]),
 (78,[.nilFunc]),
 (79,[.nilFunc]),
 (80,[.nilFunc]),
 (81,[.pointer none]),
 (82,[.nilFunc]),
 (83,[.slice none 0 0]),
 (84,[.map none]),
 (85,[.slice none 0 0,.int .i64 0,.int .i64 0,.map none,.int .i64 0,.int .i64 0]),
 (86,[.slice none 0 0,.int .i64 0,.int .i64 0,.map none,.int .i64 0,.int .i64 0]),
 (87,[.nilFunc]),
 (88,[.nilFunc]),
 (89,[.nilFunc]),
 (90,[.nilFunc]),
 (92,[.nilFunc]),
 (93,[.nilFunc]),
 (94,[.pointer none]),
 (96,[.nilFunc]),
 (97,[.nilFunc]),
 (98,[.nilFunc]),
 (99,[.nilFunc]),
 (100,[.nilFunc]),
 (101,[.nilFunc]),
 (102,[.nilFunc]),
 (103,[.nilFunc]),
 (104,[.nilFunc]),
 (105,[.pointer none]),
 (107,[.nilFunc]),
 (108,[.pointer none]),
 (109,[.slice none 0 0,.slice none 0 0,.int .u8 0,.int .i64 0,.string ⟨#[]⟩,.slice none 0 0,.pointer none,.int .i64 0,.int .i64 0,.slice none 0 0]),
 (110,[.slice none 0 0,.slice none 0 0,.int .u8 0,.int .i64 0,.string ⟨#[]⟩,.slice none 0 0,.pointer none,.int .i64 0,.int .i64 0,.slice none 0 0]),
 (111,[.nilFunc]),
 (112,[.pointer none]),
 (113,[.slice none 0 0]),
 (114,[.slice none 0 0,.bool false]),
 (115,[.slice none 0 0,.bool false]),
 (116,[.nilFunc]),
 (117,[.nilFunc]),
 (118,[.nilFunc]),
 (119,[.nilFunc]),
 (120,[.nilFunc]),
 (122,[.nilFunc]),
 (123,[.nilFunc]),
 (124,[.slice none 0 0]),
 (125,[.nilFunc]),
 (126,[.nilFunc]),
 (127,[.int .u8 0,.string ⟨#[]⟩,.int .i64 0]),
 (128,[.int .u8 0,.string ⟨#[]⟩,.int .i64 0]),
 (129,[.nilFunc]),
 (130,[.nilFunc]),
 (131,[.nilFunc]),
 (132,[.nilFunc]),
 (133,[.nilFunc]),
 (134,[.nilFunc]),
 (135,[.nilFunc]),
 (136,[.nilFunc]),
 (137,[.nilFunc]),
 (138,[.map none]),
 (139,[.nilFunc]),
 (140,[.pointer none]),
 (142,[.nilFunc]),
 (143,[.slice none 0 0]),
 (144,[.slice none 0 0,.slice none 0 0,.int .i64 0]),
 (145,[.slice none 0 0,.slice none 0 0,.int .i64 0]),
 (146,[.slice none 0 0]),
 (147,[.slice none 0 0,.slice none 0 0,.int .i64 0,.slice none 0 0,.pointer none]),
 (148,[.slice none 0 0,.slice none 0 0,.int .i64 0,.slice none 0 0,.pointer none]),
 (149,[.nilFunc]),
 (150,[.pointer none]),
 (151,[.slice none 0 0]),
 (152,[.slice none 0 0]),
 (153,[.nilFunc]),
 (154,[.nilFunc]),
 (155,[.int .i64 0]),
 (156,[.int .i64 0]),
 (158,[.nilFunc]),
 (159,[.nilFunc]),
 (160,[.nilFunc]),
 (161,[.nilFunc]),
 (163,[.nilFunc]),
 (164,[.int .i64 0,.slice none 0 0,.int .i64 0,.string ⟨#[]⟩]),
 (165,[.string ⟨#[]⟩,.string ⟨#[]⟩,.string ⟨#[]⟩,.string ⟨#[]⟩,.string ⟨#[]⟩,.string ⟨#[]⟩,.string ⟨#[]⟩,.string ⟨#[]⟩,.string ⟨#[]⟩,.string ⟨#[]⟩,.string ⟨#[]⟩,.string ⟨#[]⟩,.string ⟨#[]⟩,.string ⟨#[]⟩,.string ⟨#[]⟩,.string ⟨#[]⟩,.string ⟨#[]⟩,.string ⟨#[]⟩,.string ⟨#[]⟩,.string ⟨#[]⟩,.string ⟨#[]⟩,.string ⟨#[]⟩,.string ⟨#[]⟩,.string ⟨#[]⟩,.string ⟨#[]⟩,.string ⟨#[]⟩,.string ⟨#[]⟩,.string ⟨#[]⟩,.string ⟨#[]⟩,.string ⟨#[]⟩,.string ⟨#[]⟩,.string ⟨#[]⟩,.string ⟨#[]⟩,.string ⟨#[]⟩,.string ⟨#[]⟩,.string ⟨#[]⟩,.string ⟨#[]⟩,.string ⟨#[]⟩,.string ⟨#[]⟩,.string ⟨#[]⟩,.string ⟨#[]⟩,.string ⟨#[]⟩,.string ⟨#[]⟩]),
 (166,[.nilFunc]),
 (167,[.nilFunc]),
 (168,[.nilFunc]),
 (169,[.nilFunc]),
 (170,[.slice none 0 0]),
 (171,[.nilFunc]),
 (172,[.nilFunc]),
 (173,[.slice none 0 0,.slice none 0 0]),
 (174,[.slice none 0 0,.slice none 0 0]),
 (175,[.pointer none]),
 (176,[.nilFunc]),
 (177,[.nilFunc]),
 (178,[.nilFunc]),
 (179,[.nilFunc]),
 (180,[.nilFunc]),
 (181,[.nilFunc]),
 (182,[.nilFunc]),
 (183,[.nilFunc]),
 (185,[.nilFunc]),
 (187,[.nilFunc]),
 (188,[.nilFunc]),
 (189,[.slice none 0 0]),
 (190,[.nilFunc]),
 (191,[.nilFunc]),
 (192,[.nilFunc]),
 (194,[.nilFunc]),
 (196,[.nilFunc]),
 (197,[.nilFunc]),
 (199,[.nilFunc]),
 (200,[.nilFunc]),
 (201,[.nilFunc]),
 (202,[.nilFunc]),
 (203,[.nilFunc]),
 (204,[.int .u8 0,.int .i64 0,.string ⟨#[]⟩,.slice none 0 0,.int .i64 0,.bool false]),
 (205,[.int .u8 0,.int .i64 0,.string ⟨#[]⟩,.slice none 0 0,.int .i64 0,.bool false]),
 (206,[.nilFunc]),
 (207,[.nilFunc]),
 (208,[.nilFunc]),
 (210,[.nilFunc]),
 (211,[.slice none 0 0]),
 (212,[.nilFunc]),
 (213,[.nilFunc]),
 (214,[.nilFunc]),
 (215,[.nilFunc]),
 (216,[.nilIface]),
 (217,[.nilIface]),
 (219,[.nilFunc]),
 (220,[.nilFunc]),
 (221,[.nilFunc]),
 (222,[.pointer none]),
 (223,[.nilFunc]),
 (224,[.nilFunc]),
 (225,[.nilFunc]),
 (226,[.nilFunc]),
 (227,[.nilFunc]),
 (228,[.int .i64 0]),
 (230,[.nilFunc]),
 (231,[.pointer none]),
 (232,[.nilFunc]),
 (233,[.nilFunc]),
 (234,[.nilFunc]),
 (235,[.int .u64 0]),
 (237,[.nilFunc]),
 (238,[.int .u64 0]),
 (239,[.nilFunc]),
 (240,[.string ⟨#[]⟩,.string ⟨#[]⟩,.nilIface]),
 (241,[.string ⟨#[]⟩,.string ⟨#[]⟩,.nilIface]),
 (242,[.nilFunc]),
 (243,[.nilFunc]),
 (244,[.pointer none]),
 (245,[.pointer none]),
 (246,[.string ⟨#[]⟩]),
 (247,[.string ⟨#[]⟩]),
 (248,[.nilFunc]),
 (249,[.nilFunc]),
 (250,[.int .u8 0,.int .u8 0,.int .u8 0,.int .u8 0,.int .u8 0,.int .u8 0,.int .u8 0,.int .u8 0,.int .u8 0,.int .u8 0,.int .u8 0,.int .u8 0,.int .u8 0,.int .u8 0,.int .u8 0,.int .u8 0,.int .u8 0,.int .u8 0,.int .u8 0,.int .u8 0,.int .u8 0,.int .u8 0,.int .u8 0,.int .u8 0]),
 (251,[.nilFunc]),
 (252,[.nilFunc]),
 (254,[.nilFunc]),
 (255,[.nilFunc]),
 (256,[.int .u64 0,.int .u64 0,.int .u64 0,.int .u64 0,.int .u64 0,.int .u64 0,.int .u64 0,.int .u64 0,.int .u64 0,.int .u64 0,.int .u64 0,.int .u64 0,.int .u64 0,.int .u64 0,.int .u64 0,.int .u64 0,.int .u64 0,.int .u64 0,.int .u64 0,.int .u64 0]),
 (257,[.int .u32 0]),
 (259,[.nilFunc]),
 (260,[.nilFunc]),
 (261,[.nilFunc]),
 (262,[.int .u8 0,.int .u8 0,.int .u8 0,.int .u8 0,.int .u8 0,.int .u8 0,.int .u8 0,.int .u8 0,.int .u8 0,.int .u8 0,.int .u8 0,.int .u8 0,.int .u8 0,.int .u8 0,.int .u8 0,.int .u8 0,.int .u8 0,.int .u8 0,.int .u8 0,.int .u8 0,.int .u8 0,.int .u8 0,.int .u8 0,.int .u8 0,.int .u8 0,.int .u8 0,.int .u8 0,.int .u8 0,.int .u8 0,.int .u8 0,.int .u8 0,.int .u8 0]),
 (263,[.int .u8 0,.int .u8 0,.int .u8 0,.int .u8 0,.int .u8 0,.int .u8 0,.int .u8 0,.int .u8 0,.int .u8 0,.int .u8 0,.int .u8 0,.int .u8 0,.int .u8 0,.int .u8 0,.int .u8 0,.int .u8 0,.int .u8 0,.int .u8 0,.int .u8 0,.int .u8 0,.int .u8 0,.int .u8 0,.int .u8 0,.int .u8 0,.int .u8 0,.int .u8 0,.int .u8 0,.int .u8 0,.int .u8 0,.int .u8 0,.int .u8 0,.int .u8 0,.int .u8 0,.int .u8 0,.int .u8 0,.int .u8 0,.int .u8 0,.int .u8 0,.int .u8 0,.int .u8 0,.int .u8 0,.int .u8 0,.int .u8 0,.int .u8 0,.int .u8 0,.int .u8 0,.int .u8 0,.int .u8 0,.int .u8 0,.int .u8 0,.int .u8 0,.int .u8 0,.int .u8 0,.int .u8 0,.int .u8 0,.int .u8 0,.int .u8 0,.int .u8 0,.int .u8 0,.int .u8 0,.int .u8 0,.int .u8 0,.int .u8 0,.int .u8 0]),
 (264,[.pointer none,.pointer none,.pointer none,.string ⟨#[]⟩]),
 (265,[.pointer none,.pointer none,.pointer none,.string ⟨#[]⟩]),
 (266,[]),
 (269,[.int .u8 0]),
 (270,[.int .u8 0]),
 (271,[.nilFunc]),
 (272,[.int .i32 0]),
 (273,[.int .i32 0]),
 (274,[.int .u64 0,.int .u64 0,.int .u32 0,.int .u8 0,.int .u8 0,.int .u8 0,.int .u8 0,.nilFunc,.pointer none,.int .i32 0,.int .i32 0]),
 (275,[.int .u64 0,.int .u64 0,.int .u32 0,.int .u8 0,.int .u8 0,.int .u8 0,.int .u8 0,.nilFunc,.pointer none,.int .i32 0,.int .i32 0])]
theorem Aa:TabOk prog tab:=TabOk.of_check (by kernel_rfl)
theorem Bj:CO prog zt:=⟨by kernel_rfl,by kernel_rfl,by kernel_rfl,by kernel_rfl,by kernel_rfl,by kernel_rfl,by kernel_rfl,by kernel_rfl,by kernel_rfl,by kernel_rfl,by kernel_rfl,by kernel_rfl,by kernel_rfl,by kernel_rfl,by kernel_rfl,by kernel_rfl,by kernel_rfl,by kernel_rfl,by kernel_rfl,by kernel_rfl,by kernel_rfl,by kernel_rfl,by kernel_rfl,by kernel_rfl,by kernel_rfl,by kernel_rfl,by kernel_rfl,by kernel_rfl,by kernel_rfl,by kernel_rfl,by kernel_rfl,by kernel_rfl,by kernel_rfl,by kernel_rfl,by kernel_rfl,by kernel_rfl,by kernel_rfl,by kernel_rfl,by kernel_rfl,by kernel_rfl,by kernel_rfl,by kernel_rfl,by kernel_rfl,by kernel_rfl,by kernel_rfl,by kernel_rfl,by kernel_rfl,by kernel_rfl,by kernel_rfl,by kernel_rfl,by kernel_rfl,by kernel_rfl,by kernel_rfl,by kernel_rfl,by kernel_rfl,by kernel_rfl,by kernel_rfl,by kernel_rfl,by kernel_rfl,by kernel_rfl,by kernel_rfl,by kernel_rfl,by kernel_rfl,by kernel_rfl,by kernel_rfl,by kernel_rfl,by kernel_rfl,by kernel_rfl,by kernel_rfl,by kernel_rfl,by kernel_rfl,by kernel_rfl,by kernel_rfl,by kernel_rfl,by kernel_rfl,by kernel_rfl,by kernel_rfl,by kernel_rfl,by kernel_rfl,by kernel_rfl,by kernel_rfl,by kernel_rfl,by kernel_rfl,by kernel_rfl,by kernel_rfl,by kernel_rfl,by kernel_rfl,by kernel_rfl,by kernel_rfl,by kernel_rfl,by kernel_rfl,by kernel_rfl,by kernel_rfl,by kernel_rfl,by kernel_rfl,by kernel_rfl,by kernel_rfl,by kernel_rfl,by kernel_rfl,by kernel_rfl,by kernel_rfl,by kernel_rfl,by kernel_rfl,by kernel_rfl,by kernel_rfl,by kernel_rfl,by kernel_rfl,by kernel_rfl,by kernel_rfl,by kernel_rfl,by kernel_rfl,by kernel_rfl,by kernel_rfl,by kernel_rfl,by kernel_rfl,by kernel_rfl,by kernel_rfl,by kernel_rfl,by kernel_rfl,by kernel_rfl,by kernel_rfl,by kernel_rfl,by kernel_rfl,by kernel_rfl,by kernel_rfl,by kernel_rfl,by kernel_rfl,by kernel_rfl,by kernel_rfl,by kernel_rfl,by kernel_rfl,by kernel_rfl,by kernel_rfl,by kernel_rfl,by kernel_rfl,by kernel_rfl,by kernel_rfl,by kernel_rfl,by kernel_rfl,by kernel_rfl,by kernel_rfl,by kernel_rfl,by kernel_rfl,by kernel_rfl,by kernel_rfl,by kernel_rfl,by kernel_rfl,by kernel_rfl,by kernel_rfl,by kernel_rfl,by kernel_rfl,by kernel_rfl,by kernel_rfl,by kernel_rfl,by kernel_rfl,by kernel_rfl,by kernel_rfl,by kernel_rfl,by kernel_rfl,by kernel_rfl,by kernel_rfl,by kernel_rfl,by kernel_rfl,by kernel_rfl,by kernel_rfl,by kernel_rfl,by kernel_rfl,by kernel_rfl,by kernel_rfl,by kernel_rfl,by kernel_rfl,by kernel_rfl,by kernel_rfl,by kernel_rfl,by kernel_rfl,by kernel_rfl,by kernel_rfl,by kernel_rfl,by kernel_rfl,by kernel_rfl,by kernel_rfl,by kernel_rfl,by kernel_rfl,by kernel_rfl,by kernel_rfl,by kernel_rfl,by kernel_rfl,by kernel_rfl,by kernel_rfl,by kernel_rfl,by kernel_rfl,by kernel_rfl,by kernel_rfl,by kernel_rfl,by kernel_rfl,by kernel_rfl,by kernel_rfl,by kernel_rfl,by kernel_rfl,by kernel_rfl,by kernel_rfl,by kernel_rfl,by kernel_rfl,by kernel_rfl,by kernel_rfl,by kernel_rfl,by kernel_rfl,by kernel_rfl,by kernel_rfl,by kernel_rfl,by kernel_rfl,by kernel_rfl,by kernel_rfl,by kernel_rfl,by kernel_rfl,by kernel_rfl,by kernel_rfl,by kernel_rfl,by kernel_rfl,by kernel_rfl,by kernel_rfl,by kernel_rfl,by kernel_rfl,by kernel_rfl,by kernel_rfl,by kernel_rfl,by kernel_rfl,by kernel_rfl,by kernel_rfl,by kernel_rfl,by kernel_rfl,by kernel_rfl,by kernel_rfl,by kernel_rfl,by kernel_rfl,by kernel_rfl,by kernel_rfl,by kernel_rfl,by kernel_rfl,by kernel_rfl,by kernel_rfl,by kernel_rfl,by kernel_rfl,by kernel_rfl,by kernel_rfl,by kernel_rfl,by kernel_rfl,by kernel_rfl,by kernel_rfl,by kernel_rfl,by kernel_rfl,trivial⟩
theorem mixed:prog.follows .mixedOrders=true:=by kernel_rfl
theorem New.put {w w1 w2:World} {b:Nat} {vs us:List Value} (h:New w w1 b vs) (p:Put w1 w2 b us):New w w2 b us:=
 ⟨h.pos,p.blk,⟨p.fr.os.trans (Below.os h.ext),p.fr.tape.trans (Below.tape h.ext),p.fr.output.trans (Below.output h.ext),Nat.le_trans h.ext.size p.fr.size,
  fun k hk=>(p.fr.block k (Nat.lt_of_lt_of_le hk h.ext.size) (by have:=h.pos;omega)).trans (h.ext.block hk)⟩,by rw [p.size,h.size]⟩
theorem Ext.put {a w w1:World} {b:Nat} {vs:List Value} (h:Ext a w) (p:Put w w1 b vs) (hb:a.heap.size≤b):Ext a w1:=
 ⟨p.fr.os.trans (Below.os h),p.fr.tape.trans (Below.tape h),p.fr.output.trans (Below.output h),Nat.le_trans h.size p.fr.size,
  fun k hk=>(p.fr.block k (Nat.lt_of_lt_of_le hk h.size) (by omega)).trans (h.block hk)⟩
theorem Blk.put {w w1:World} {b c:Nat} {vs us:List Value} (h:Blk w c us) (p:Put w w1 b vs) (hb:c≠b):Blk w1 c us:=h.fr p.fr hb
section seqs
variable {P:Program} {n:Nat} {ops:Array Oper} {Q:Exit→Act→World→Prop} {rest:List Oper} {l:Sl} {w:World} {tab:Tab}
 {d:Nat} {ty:TypeId} {pos:String} {after:Array Edge}
theorem IY {x:Operand} {t:Nat} {v:Value} {vs:List Value} (hx:ev l x=some v) (hv:v.cells=vs.toArray) (hd:Nat.blt d n=true)
 (k : ∀b w1,New w w1 b vs→LW P n ops Q rest ((d,.pointer (some ⟨b,0,none⟩))::l) w1):LW P n ops Q (⟨some d,.box t x,ty,pos,after,none⟩::rest) l w:=
 AQ (Gy hx hv) hd (fun _ w1 ⟨b,h,hn⟩=>h▸k b w1 hn) (fun _ h=>h)
theorem EM {zt:EL} {t:Nat} {vs:List Value} (Z:CO P zt) (hz:Dx zt t=some vs) (hd:Nat.blt d n=true)
 (k : ∀b w1,New w w1 b vs→LW P n ops Q rest ((d,.pointer (some ⟨b,0,none⟩))::l) w1):LW P n ops Q (⟨some d,.alloc t,ty,pos,after,none⟩::rest) l w:=
 AQ (BG Z hz) hd (fun _ w1 ⟨b,h,hn⟩=>h▸k b w1 hn) (fun _ h=>h)
theorem Id {x y:Operand} {t sz b o:Nat} {s:Sk} {v:Value} {vs us:List Value} (T:TabOk P tab) (ht:AL tab t=some (s,sz)) (hx:ev l x=some (.pointer (some ⟨b,o,none⟩))) (hy:ev l y=some v)
 (hv:v.cells=us.toArray) (hl:us.length=sz) (h1:us.all Value.one=true) (hb:Blk w b vs) (ho:Nat.ble (o+us.length) vs.length=true)
 (k : ∀w1,Put w w1 b (Bp vs o us)→LW P n ops Q rest l w1):LW P n ops Q (⟨none,.store t x y,ty,pos,after,none⟩::rest) l w:=
 Br (Ga T ht hx hy hv hl h1 hb ho) (fun v w1 h=>by cases v with|none=>exact k w1 h|some _=>exact h.elim)
theorem Fy {w0:World} {x y:Operand} {t sz b:Nat} {s:Sk} {v:Value} {vs us:List Value} (T:TabOk P tab) (ht:AL tab t=some (s,sz)) (hx:ev l x=some (.pointer (some ⟨b,0,none⟩))) (hy:ev l y=some v)
 (hv:v.cells=us.toArray) (hl:us.length=sz) (h1:us.all Value.one=true) (hb:New w0 w b vs) (ho:us.length=vs.length)
 (k : ∀w1,New w0 w1 b us→LW P n ops Q rest l w1):LW P n ops Q (⟨none,.store t x y,ty,pos,after,none⟩::rest) l w:=
 Id T ht hx hy hv hl h1 hb.blk (by simp [ho]) (fun w1 p=>k w1 (hb.put (by
  have e:Bp vs 0 us=us:=by
   have key : ∀(us vs pre:List Value),us.length=vs.length→Bp (pre++vs) pre.length us=pre++us:=by
    intro us
    induction us with
    | nil=>intro vs pre h;cases vs with|nil=>simp [Bp]|cons _ _=>simp at h
    | cons u r ih=>
     intro vs pre h
     cases vs with
     | nil=>simp at h
     | cons x vs=>
      simp only [Bp]
      have:(pre++x::vs).set pre.length u=(pre++[u])++vs:=by simp
      rw [this]
      have:=ih vs (pre++[u]) (by simpa using h)
      simp only [List.length_append,List.length_cons,List.length_nil] at this
      rw [this];simp
   simpa using key us vs [] ho
  rw [e] at p;exact p)))
end seqs
theorem RS (v:List Value) : ∀(cells:Array Value) (off j:Nat),((v.zipIdx j).foldl (fun cs (c:Value×Nat)=>cs.setIfInBounds (off+c.2) c.1) cells).toList=Bp cells.toList (off+j) v:=by
 induction v with
 | nil=>intro cells off j;simp [Bp]
 | cons x r ih=>
  intro cells off j
  simp only [List.zipIdx_cons,List.foldl_cons,Bp]
  rw [ih]
  simp only [Array.toList_setIfInBounds]
  rw [show off+(j+1)=off+j+1 from by omega]
def Ie:List (Nat×Nat×List Value)→List Value→Option (List Value)
 | [],cells=>some cells
 | (off,size,v)::r,cells=>match Nat.beq v.length size with
  | true=>match Nat.ble (off+size) cells.length with
   | true=>Ie r (Bp cells off v)
   | false=>none
  | false=>none
theorem L9 {place:Nat→Option (Nat×Nat)} : ∀(ps:List (Nat×Value)) (qs:List (Nat×Nat×List Value)) (cells:Array Value) (out:List Value),
 ps.length=qs.length→(∀(i:Nat) (p:Nat×Value) (q:Nat×Nat×List Value),ps[i]? = some p→qs[i]? = some q→place p.1=some (q.1,q.2.1)∧p.2.cells=q.2.2.toArray)→Ie qs cells.toList=some out→Instr.fill place cells ps=some out.toArray
 | [],[],cells,out,_,_,h=>by simp only [Ie,Option.some.injEq] at h;subst h;simp [Instr.fill]
 | [],_::_,_,_,hl,_,_=>by simp at hl
 | _::_,[],_,_,hl,_,_=>by simp at hl
 | (i,v)::ps,(off,size,us)::qs,cells,out,hl,hp,h=>by
  obtain ⟨h1,h2⟩:=hp 0 _ _ rfl rfl
  simp only at h1 h2
  simp only [Ie] at h
  split at h
  · rename_i e1
    split at h
    · rename_i e2
      have e1':=Nat.eq_of_beq_eq_true e1
      have e2':=Nat.le_of_ble_eq_true e2
      simp only [Array.length_toList] at e2'
      have hsz:v.cells.size=us.length:=by rw [h2];simp
      simp only [Instr.fill,h1]
      have hc : ¬(decide (v.cells.size≠size)||decide (off+v.cells.size>cells.size))=true:=by simp [hsz,e1'];omega
      rw [if_neg (by simpa using hc)]
      refine L9 ps qs _ out (by simpa using hl) (fun j p q hj hq=>hp (j+1) p q hj hq) ?_
      have hz:v.cells.zipIdx.foldl (fun cs (c:Value×Nat)=>cs.setIfInBounds (off+c.2) c.1) cells=(Bp cells.toList off us).toArray:=by
       apply Array.ext'
       rw [←Array.foldl_toList]
       have:=RS us cells off 0
       simpa [h2,Array.toList_zipIdx] using this
      rw [show (v.cells.zipIdx.foldl (fun cs x=>match x with|(c,j)=>cs.setIfInBounds (off+j) c) cells)=(Bp cells.toList off us).toArray from hz]
      simpa using h
    · cases h
  · cases h
theorem MU : ∀(us vs pre post:List Value),us.length=vs.length→Bp (pre++vs++post) pre.length us=pre++us++post:=by
 intro us
 induction us with
 | nil=>intro vs pre post h;cases vs with|nil=>simp [Bp]|cons _ _=>simp at h
 | cons u r ih=>
  intro vs pre post h
  cases vs with
  | nil=>simp at h
  | cons x vs=>
   simp only [Bp]
   have e:(pre++x::vs++post).set pre.length u=(pre++[u])++vs++post:=by simp
   rw [e]
   have:=ih vs (pre++[u]) post (by simpa using h)
   simp only [List.length_append,List.length_cons,List.length_nil] at this
   rw [this];simp
def Gz (size:Nat):Nat→List (List Value)→List (Nat×Nat×List Value)
 | _,[]=>[]
 | k,v::r=>(k*size,size,v)::Gz size (k+1) r
theorem Ls (size:Nat) : ∀(vss:List (List Value)) (k:Nat) (pre rest:List Value),pre.length=k*size→(∀v∈vss,v.length=size)→rest.length=vss.length*size →
 Ie (Gz size k vss) (pre++rest)=some (pre++vss.flatten)
 | [],k,pre,rest,_,_,h=>by
  have:rest=[]:=by simpa using h
  subst this;simp [Gz,Ie]
 | v::r,k,pre,rest,hp,hv,hr=>by
  have a:=hv v List.mem_cons_self
  simp only [List.length_cons,Nat.add_mul,Nat.one_mul] at hr
  have hsp:rest=rest.take size++rest.drop size:=(List.take_append_drop _ _).symm
  have htl:(rest.take size).length=v.length:=by rw [List.length_take,a];omega
  simp only [Gz,Ie]
  have b1:Nat.beq v.length size=true:=by rw [a];exact Nat.beq_refl size
  have b2:Nat.ble (k*size+size) (pre++rest).length=true:=Nat.ble_eq_true_of_le (by rw [List.length_append];omega)
  rw [b1];simp only;rw [b2];simp only
  have e:Bp (pre++rest) (k*size) v=pre++v++rest.drop size:=by
   have:=MU v (rest.take size) pre (rest.drop size) htl.symm
   rw [List.append_assoc,←hsp,hp] at this
   exact this
  rw [e]
  have:=Ls size r (k+1) (pre++v) (rest.drop size) (by rw [List.length_append,hp,a,Nat.add_mul,Nat.one_mul]) (fun u hu=>hv u (List.mem_cons_of_mem _ hu)) (by rw [List.length_drop];omega)
  rw [this];simp
def GW (l:Sl):Nat→List (Nat×Operand)→Option (List Value)
 | _,[]=>some []
 | k,(i,x)::r=>match Nat.beq i k with
  | true=>match ev l x with
   | some v=>match GW l (k+1) r with
    | some vs=>some (v::vs)
    | none=>none
   | none=>none
  | false=>none
theorem If {n:Nat} {l:Sl} {a:Act} (ha:Env n l a) : ∀(ps:List (Nat×Operand)) (k:Nat) (vs:List Value),GW l k ps=some vs→ps.map (fun p=>(p.1,a.eval p.2))=(vs.zipIdx k).map (fun v=>(v.2,v.1))
 | [],k,vs,h=>by simp only [GW,Option.some.injEq] at h;subst h;rfl
 | (i,x)::r,k,vs,h=>by
  simp only [GW] at h
  split at h
  · rename_i hb
    have hik:=Nat.eq_of_beq_eq_true hb
    split at h
    · rename_i v hv
      split at h
      · rename_i us hu
        simp only [Option.some.injEq] at h
        subst h hik
        simp [ha.ev hv,If ha r _ _ hu]
      · cases h
    · cases h
  · cases h
def Pv (w:World) (len:Nat) (vs:List Value) (T:TypeId):Option Value→World→Prop
 | some v,w1=> ∃b,v = .slice (some ⟨b,0,none⟩) len len∧New w w1 b vs∧w1.heap[b]? = some (.cells vs.toArray T (0,0))
 | none,_=>False
theorem Lu (size:Nat) : ∀(vss:List (List Value)) (k i:Nat) (q:Nat×Nat×List Value),(Gz size k vss)[i]? = some q → ∃v,vss[i]? = some v∧q=((k+i)*size,size,v)
 | [],_,_,_,h=>by simp [Gz] at h
 | v::r,k,0,q,h=>by simp [Gz] at h;exact ⟨v,rfl,by simp [h]⟩
 | v::r,k,i+1,q,h=>by
  simp only [Gz,List.getElem?_cons_succ] at h
  obtain ⟨u,h1,h2⟩:=Lu size r (k+1) i q h
  exact ⟨u,by simpa using h1,by rw [h2];congr 2;omega⟩
theorem Ig (size:Nat) : ∀(vss:List (List Value)) (k:Nat),(Gz size k vss).length=vss.length
 | [],_=>rfl
 | _::r,k=>by simp [Gz,Ig size r]
section does
variable {P:Program} {n:Nat} {l:Sl} {w:World} {tab:Tab} {zt:EL} {ty:TypeId}
theorem Ou {t e sz szE len:Nat} {sE:Sk} {zs:List Value} {ps:List (Nat×Operand)} {vs:List Value} (T:TabOk P tab) (Z:CO P zt) (ht:AL tab t=some (.slice e,sz)) (hE:AL tab e=some (sE,szE))
 (hz:Dx zt e=some zs) (hp:GW l 0 ps=some vs) (hl:vs.length=len) (hc:vs.all (fun v=>Nat.beq v.cells.size szE)=true) (hm:Nat.ble (len*szE) 10000=true) (hn0:Nat.blt 0 (len*szE)=true) :
 Cj P n l (.buildSlice t len ps.toArray) ty w (Pv w len (vs.map (·.cells.toList)).flatten e):=by
 unfold Cj
 intro a dst pos after g next Q ha hn _
 have hu:P.underlying t=some (.slice e):=(T _ _ _ ht).under
 have hm':=Nat.le_of_ble_eq_true hm
 have hn0':0<len*szE:=Nat.le_of_ble_eq_true hn0
 obtain ⟨i0,v0,z1,z2,z3⟩:=Fc Z hz
 have hps:=If ha ps 0 vs hp
 have hlen : ∀v∈vs,v.cells.size=szE:=fun v hv=>Nat.eq_of_beq_eq_true (List.all_eq_true.1 hc v hv)
 have hfill : ∀cells:Array Value,cells.size=len*szE→Instr.fill (fun i=>some (i*szE,szE)) cells ((vs.zipIdx 0).map (fun v=>(v.2,v.1)))=some (vs.map (·.cells.toList)).flatten.toArray:=fun cells hcs=>by
  refine L9 _ (Gz szE 0 (vs.map (·.cells.toList))) cells _ (by simp [Ig]) ?_ ?_
  · intro i p q hi hq
    obtain ⟨v,hv,rfl⟩:=Lu szE _ 0 i q hq
    simp only [List.getElem?_map,Option.map_eq_some_iff] at hv hi
    obtain ⟨x,hx,rfl⟩:=hv
    obtain ⟨y,hy,rfl⟩:=hi
    rw [List.getElem?_zipIdx] at hy
    rw [hx] at hy
    simp only [Option.map_some,Option.some.injEq] at hy
    subst hy
    simp
  · have:=Ls szE (vs.map (·.cells.toList)) 0 [] cells.toList (by simp) (by simpa using hlen) (by simp [hcs,hl])
    simpa using this
 have e1:(execOp a.eval ⟨dst,.buildSlice t len ps.toArray,ty,pos,after,g⟩).run P w = .ok (.value (.slice (some ⟨w.heap.size,0,none⟩) len len)) (w.alloc (.cells (vs.map (·.cells.toList)).flatten.toArray e (0,0))):=by
  have hpa:(ps.toArray.map fun (p:Nat×Operand)=>(p.1,a.eval p.2)).toList=(vs.zipIdx 0).map (fun v=>(v.2,v.1)):=by simpa using hps
  have hb:(Instr.buildSlice t len (ps.toArray.map fun (p:Nat×Operand)=>(p.1,a.eval p.2))).run P w = .ok (.slice (some ⟨w.heap.size,0,none⟩) len len) (w.alloc (.cells (vs.map (·.cells.toList)).flatten.toArray e (0,0))):=by
   simp only [Instr.buildSlice,Sem.run_bind,AG hu,Result.andThen,Ci (T _ _ _ hE),hpa]
   rw [if_neg (by omega)]
   simp only [if_neg (show ¬len*szE=0 by omega),zeroValue,typeInfo,program,Sem.run,z1,z2,bind,Sem.bind,pure]
   rw [hfill _ (by simp)]
   simp only [newRow,newObj,bind,Sem.bind,Sem.run,pure]
   rfl
  simp only [execOp,Sem.run_bind]
  rw [show (ps.toArray.map fun x=>match x with|(i,x)=>(i,a.eval x))=ps.toArray.map fun (p:Nat×Operand)=>(p.1,a.eval p.2) from rfl,hb]
  rfl
 unfold Oper.wp
 rw [e1]
 exact hn _ _ ⟨_,rfl,Er _ _ _,by show (w.heap.push _)[w.heap.size]? = _;simp⟩
theorem A6 {S:World→Prop} {x:Operand} {a:Addr} (hx:ev l x=some (.pointer (some a))):BE P n l S (.nilCheck x) ty (.pointer (some a)):=by
 unfold BE
 intro a w dst pos after g ha _
 simp [execOp,ha.ev hx]
def IZ (tab:Tab) (fs:List (Nat×Nat)) (l:Sl):List (Nat×Operand)→Option (List (Nat×Value)×List (Nat×Nat×List Value))
 | []=>some ([],[])
 | (i,x)::r=>match fs[i]? with
  | some (off,ft)=>match AL tab ft with
   | some (_,sz)=>match ev l x with
    | some v=>match IZ tab fs l r with
     | some (ps,qs)=>some ((i,v)::ps,(off,sz,v.cells.toList)::qs)
     | none=>none
    | none=>none
   | none=>none
  | none=>none
theorem Jh {a:Act} {fs:List (Nat×Nat)} {gs:Array Field} (T:TabOk P tab) (ha:Env n l a) (hg : ∀(i o ft:Nat),fs[i]? = some (o,ft) → ∃g:Field,gs[i]? = some g∧g.offset=o∧g.type=ft ∧ ∃j:TypeInfo,P.info? ft=some j∧j.size≠0)
 {pl:Array (Nat×Nat)} (hpl : ∀(i:Nat) (g:Field) (s:Sk) (sz:Nat),gs[i]? = some g→TyOk P g.type s sz→pl[i]? = some (g.offset,sz)) : ∀(xs:List (Nat×Operand)) (ps:List (Nat×Value)) (qs:List (Nat×Nat×List Value)),IZ tab fs l xs=some (ps,qs) →
  xs.map (fun p=>(p.1,a.eval p.2))=ps∧ps.length=qs.length ∧ ∀(i:Nat) (p:Nat×Value) (q:Nat×Nat×List Value),ps[i]? = some p→qs[i]? = some q→pl[p.1]? = some (q.1,q.2.1)∧p.2.cells=q.2.2.toArray
 | [],ps,qs,h=>by simp only [IZ,Option.some.injEq,Prod.mk.injEq] at h;obtain ⟨rfl,rfl⟩:=h;simp
 | (i,x)::r,ps,qs,h=>by
  simp only [IZ] at h
  split at h
  · rename_i off ft hf
    split at h
    · rename_i s sz ht
      split at h
      · rename_i v hv
        split at h
        · rename_i ps' qs' hr
          simp only [Option.some.injEq,Prod.mk.injEq] at h
          obtain ⟨rfl,rfl⟩:=h
          obtain ⟨h1,h2,h3⟩:=Jh T ha hg hpl r ps' qs' hr
          refine ⟨by simp [ha.ev hv,h1],by simp [h2],?_⟩
          rintro (_|j) p q hp hq
          · simp only [List.getElem?_cons_zero,Option.some.injEq] at hp hq
            subst hp hq
            obtain ⟨g,g1,g2,g3,-⟩:=hg i off ft hf
            refine ⟨?_,by simp⟩
            have:=hpl i g s sz g1 (by rw [g3];exact T _ _ _ ht)
            rw [g2] at this;exact this
          · exact h3 j p q (by simpa using hp) (by simpa using hq)
        · cases h
      · cases h
    · cases h
  · cases h
theorem Lv : ∀(fs:List Field),(∀f∈fs,∃i,P.info? f.type=some i) → ∃pl:List (Nat×Nat),fs.mapM (fun f=>(P.info? f.type).map fun i=>(f.offset,i.size))=some pl ∧ ∀(i:Nat) (g:Field) (s:Sk) (sz:Nat),fs[i]? = some g→TyOk P g.type s sz→pl[i]? = some (g.offset,sz)
 | [],_=>⟨[],by simp,by simp⟩
 | f::r,h=>by
  obtain ⟨i,hi⟩:=h f List.mem_cons_self
  obtain ⟨pl,h1,h2⟩:=Lv r (fun g hg=>h g (List.mem_cons_of_mem _ hg))
  refine ⟨(f.offset,i.size)::pl,by simp [hi,h1],?_⟩
  rintro (_|j) g s sz hg ht
  · simp only [List.getElem?_cons_zero,Option.some.injEq] at hg
    subst hg
    obtain ⟨i',e1,e2⟩:=ht.info
    rw [hi] at e1
    injection e1 with e1
    subst e1
    simp [e2]
  · exact h2 j g s sz (by simpa using hg) ht
theorem Qm {S:World→Prop} {t sz:Nat} {fs:List (Nat×Nat)} {xs:List (Nat×Operand)} {ps:List (Nat×Value)} {qs:List (Nat×Nat×List Value)} {zs out:List Value} (T:TabOk P tab) (Z:CO P zt)
 (ht:AL tab t=some (.struct fs,sz)) (hz:Dx zt t=some zs) (hp:IZ tab fs l xs=some (ps,qs)) (ho:Ie qs zs=some out):BE P n l S (.build t xs.toArray) ty (.agg out.toArray):=by
 unfold BE
 intro a w dst pos after g ha _
 obtain ⟨gs,h1,h2,h3⟩:=(T _ _ _ ht).under
 obtain ⟨i0,v0,z1,z2,z3⟩:=Fc Z hz
 obtain ⟨pl,p1,p2⟩:=Lv (P:=P) gs.toList (fun f hf=>by
  obtain ⟨i,hi,rfl⟩:=List.mem_iff_getElem.1 hf
  have hlt:i<fs.length:=by simpa [h2] using hi
  obtain ⟨g,g1,g2,g3,j,g4,-⟩:=h3 i fs[i].1 fs[i].2 (List.getElem?_eq_getElem hlt)
  have:gs.toList[i]=g:=by
   have:=Array.getElem?_eq_some_iff.1 g1
   simpa using this.2
  rw [this,g3];exact ⟨j,g4⟩)
 obtain ⟨q1,q2,q3⟩:=Jh T ha h3 (pl:=pl.toArray) (fun i g s sz hg hk=>by simpa using p2 i g s sz (by simpa using hg) hk) xs ps qs hp
 have hb:P.built t (xs.toArray.map fun (p:Nat×Operand)=>(p.1,a.eval p.2)).toList=some out.toArray:=by
  unfold Program.built
  simp only [z1,h1,z2,p1]
  rw [show (xs.toArray.map fun (p:Nat×Operand)=>(p.1,a.eval p.2)).toList=ps from by simpa using q1]
  exact L9 ps qs v0.cells out q2 q3 (by rw [z3];simpa using ho)
 have:=run_build w t _ _ hb
 simp only [execOp,Sem.run_bind]
 rw [show (xs.toArray.map fun x=>match x with|(i,x)=>(i,a.eval x))=xs.toArray.map fun (p:Nat×Operand)=>(p.1,a.eval p.2) from rfl,this]
 rfl
end does
theorem Row.sub {w:World} {b o:Nat} {vs:List Value} (h:Row w ⟨b,o,none⟩ vs) (i k:Nat):Row w ⟨b,o+i,none⟩ ((vs.drop i).take k):=fun j v hj=>by
 have hj':vs[i+j]? = some v:=by
  rw [List.getElem?_take] at hj
  split at hj
  · rwa [List.getElem?_drop] at hj
  · cases hj
 have:=h.at hj'
 have e:(⟨b,o+i,none⟩:Addr).add j=⟨b,o+(i+j),none⟩:=by unfold Addr.add;by_cases h0:j=0<;>simp [h0,Nat.add_assoc]
 rw [e];exact this
section parts
variable {P:Program} {n:Nat} {l:Sl} {S:World→Prop} {ty:TypeId} {tab:Tab}
theorem Dm {x:Operand} {t sz b o:Nat} {s:Sk} {vs:List Value} (T:TabOk P tab) (ht:AL tab t=some (s,sz)) (hs:s.agg=true) (hx:ev l x=some (.pointer (some ⟨b,o,none⟩)))
 (hc : ∀w,S w→Blk w b vs) (hl:Nat.ble (o+sz) vs.length=true):BE P n l S (.load t x) ty (.agg ((vs.drop o).take sz).toArray):=
 IX T ht hs hx (by have:=Nat.le_of_ble_eq_true hl;simp;omega) (fun w hS=>by have:=(hc w hS).row.sub o sz;simpa using this)
theorem G8 {x:Operand} {t sz b o i:Nat} {s:Sk} {vs:List Value} (T:TabOk P tab) (ht:AL tab t=some (s,sz)) (hs:s.agg=true) (hx:ev l x=some (.pointer (some ⟨b,o+i,none⟩)))
 (hc : ∀w,S w→Row w ⟨b,o,none⟩ vs) (hl:Nat.ble (i+sz) vs.length=true):BE P n l S (.load t x) ty (.agg ((vs.drop i).take sz).toArray):=
 IX T ht hs hx (by have:=Nat.le_of_ble_eq_true hl;simp;omega) (fun w hS=>(hc w hS).sub i sz)
end parts
theorem Es {P:Program} {n:Nat} {l:Sl} {S:World→Prop} {ty:TypeId} {tab:Tab} {x:Operand} {t sz:Nat} {a:List UInt8} (T:TabOk P tab) (ht:AL tab t=some (.str,sz)) (hx:ev l x=some (str a)):BE P n l S (.call ⟨.builtin .len,#[x],#[t]⟩) ty (.int .i64 a.length):=MT T (pt:=true) ht hx
def Arr {α:Type} (S:Nat→Prop) (sz:Nat) (E:World→Nat→Nat→α→Prop) (w:World) (l:List α) (a:Option Addr):Prop:=
 l=[] ∨ ∃b o,a=some ⟨b,o,none⟩∧S b ∧ ∀i x,l[i]? = some x→E w b (o+i*sz) x
theorem Arr.mono {α:Type} {S S':Nat→Prop} {sz:Nat} {E E':World→Nat→Nat→α→Prop} {w w':World} {l:List α} {a:Option Addr} (h:Arr S sz E w l a) (hS : ∀b,S b→S' b) (hE : ∀b o x,x∈l→S b→E w b o x→E' w' b o x):Arr S' sz E' w' l a:=by
 rcases h with h|⟨b,o,h1,h2,h3⟩
 · exact Or.inl h
 · exact Or.inr ⟨b,o,h1,hS b h2,fun i x hx=>hE _ _ _ (List.mem_of_getElem? hx) h2 (h3 i x hx)⟩
theorem Arr.get {α:Type} {S:Nat→Prop} {sz:Nat} {E:World→Nat→Nat→α→Prop} {w:World} {l:List α} {a:Option Addr} (h:Arr S sz E w l a) (hl:0<l.length) :
 ∃b o,a=some ⟨b,o,none⟩∧S b ∧ ∀i x,l[i]? = some x→E w b (o+i*sz) x:=by
 rcases h with h|h
 · subst h;simp at hl
 · exact h
def TB (w:World) (b:Nat) (vs:List Value) (T:TypeId):Prop:=w.heap[b]? = some (.cells vs.toArray T (0,0))
theorem TB.blk {w:World} {b:Nat} {vs:List Value} {T:TypeId} (h:TB w b vs T):Blk w b vs:=⟨T,h⟩
theorem TB.ext {w w':World} {b:Nat} {vs:List Value} {T:TypeId} (h:TB w b vs T) (e:Ext w w'):TB w' b vs T:=(e.block h.blk.lt).trans h
theorem TB.set {w:World} {b i:Nat} {vs:List Value} {T:TypeId} (h:TB w b vs T) (v:Value):TB (w.setCell ⟨b,i,none⟩ v) b (vs.set i v) T:=by
 have h':w.heap[b]? = some (.cells vs.toArray T (0,0)):=h
 unfold TB
 simp [World.setCell,Array.getElem?_modify,h']
theorem ER {P:Program} {T:TypeId} : ∀(us:List Value) (w:World) (b o i:Nat) (vs:List Value),TB w b vs T→o+i+us.length≤vs.length→us.all Value.one=true →
 ∃w1,(storeCells ⟨b,o,none⟩ us i).run P w = .ok () w1∧Put w w1 b (Bp vs (o+i) us)∧TB w1 b (Bp vs (o+i) us) T
 | [],w,b,o,i,vs,h,_,_=>⟨w,rfl,⟨h.blk,Fr.refl _ _,rfl⟩,h⟩
 | u::r,w,b,o,i,vs,h,hl,hv=>by
  simp only [List.length_cons] at hl
  simp only [List.all_cons,Bool.and_eq_true] at hv
  have ha:(⟨b,o,none⟩:Addr).add i=⟨b,o+i,none⟩:=by unfold Addr.add;by_cases h0:i=0<;>simp [h0]
  have e:(storeCells ⟨b,o,none⟩ (u::r) i).run P w=(storeCells ⟨b,o,none⟩ r (i+1)).run P (w.setCell ⟨b,o+i,none⟩ u):=by
   simp only [storeCells,store,ha,bind,Sem.bind]
   exact Lr h.blk (by omega) hv.1 _
  obtain ⟨w1,h1,h2,h3⟩:=ER (P:=P) r _ b o (i+1) _ (h.set (i:=o+i) u) (by simp;omega) hv.2
  refine ⟨w1,by rw [e,h1],⟨h2.blk,((Fr.refl (· = b) w).setCell ⟨b,o+i,none⟩ u (Or.inl rfl)).trans h2.fr,?_⟩,h3⟩
  rw [h2.size];simp [World.setCell]
section typed
variable {P:Program} {n:Nat} {ops:Array Oper} {Q:Exit→Act→World→Prop} {rest:List Oper} {l:Sl} {w:World} {tab:Tab}
 {d:Nat} {ty:TypeId} {pos:String} {after:Array Edge}
def RT (w:World) (vs:List Value) (T:TypeId):Option Value→World→Prop
 | some v,w1=> ∃b,v = .pointer (some ⟨b,0,none⟩)∧New w w1 b vs∧TB w1 b vs T
 | none,_=>False
theorem Ih (w:World) (vs:List Value) (T:TypeId):TB (w.alloc (.cells vs.toArray T (0,0))) w.heap.size vs T:=by show (w.heap.push _)[w.heap.size]? = _;simp
theorem Qo {x:Operand} {t:Nat} {v:Value} {vs:List Value} (hx:ev l x=some v) (hv:v.cells=vs.toArray):Cj P n l (.box t x) ty w (RT w vs t):=by
 unfold Cj
 intro a dst pos after g next Q ha hn _
 have e:(execOp a.eval ⟨dst,.box t x,ty,pos,after,g⟩).run P w = .ok (.value (.pointer (some ⟨w.heap.size,0,none⟩))) (w.alloc (.cells vs.toArray t (0,0))):=by
  simp [execOp,ha.ev hx,Instr.box,newVar,newRow,newObj,Sem.run,hv,bind,Sem.bind,pure]
 unfold Oper.wp
 rw [e]
 exact hn _ _ ⟨_,rfl,Er _ _ _,Ih _ _ _⟩
theorem MV {zt:EL} {t:Nat} {vs:List Value} (Z:CO P zt) (hz:Dx zt t=some vs):Cj P n l (.alloc t) ty w (RT w vs t):=by
 unfold Cj
 intro a dst pos after g next Q ha hn _
 obtain ⟨i,v,h1,h2,h3⟩:=Fc Z hz
 have e:(execOp a.eval ⟨dst,.alloc t,ty,pos,after,g⟩).run P w = .ok (.value (.pointer (some ⟨w.heap.size,0,none⟩))) (w.alloc (.cells vs.toArray t (0,0))):=by
  simp [execOp,Instr.alloc,zeroValue,typeInfo,program,newVar,newRow,newObj,Sem.run,h1,h2,h3,bind,Sem.bind,pure]
 unfold Oper.wp
 rw [e]
 exact hn _ _ ⟨_,rfl,Er _ _ _,Ih _ _ _⟩
theorem JG {x:Operand} {t:Nat} {v:Value} {vs:List Value} (hx:ev l x=some v) (hv:v.cells=vs.toArray) (hd:Nat.blt d n=true)
 (k : ∀b w1,New w w1 b vs→TB w1 b vs t→LW P n ops Q rest ((d,.pointer (some ⟨b,0,none⟩))::l) w1):LW P n ops Q (⟨some d,.box t x,ty,pos,after,none⟩::rest) l w:=
 AQ (Qo hx hv) hd (fun _ w1 ⟨b,h,hn,ht⟩=>h▸k b w1 hn ht) (fun _ h=>h)
theorem Qp {zt:EL} {t:Nat} {vs:List Value} (Z:CO P zt) (hz:Dx zt t=some vs) (hd:Nat.blt d n=true)
 (k : ∀b w1,New w w1 b vs→TB w1 b vs t→LW P n ops Q rest ((d,.pointer (some ⟨b,0,none⟩))::l) w1):LW P n ops Q (⟨some d,.alloc t,ty,pos,after,none⟩::rest) l w:=
 AQ (MV Z hz) hd (fun _ w1 ⟨b,h,hn,ht⟩=>h▸k b w1 hn ht) (fun _ h=>h)
end typed
theorem Fr.of_grown {w w':World} {row:Option Nat} (h:w.grownBy w' row):Fr (fun k=>some k=row) w w':=⟨h.os,h.tape,h.output,h.size,fun k hk hs=>h.block k hk hs⟩
abbrev Own (w:World) (b:Nat) (e:TypeId) (sz:Nat) (v:Value) (n:Nat) (cs:List Value):Prop:=w.ownsRow b e sz v n cs
theorem Own.nil {w:World} {b e sz:Nat}:Own w b e sz (.slice none 0 0) 0 []:=⟨by simp,Or.inl ⟨rfl,rfl⟩⟩
theorem Own.ext {w w':World} {b e sz n:Nat} {v:Value} {cs:List Value} (h:Own w b e sz v n cs) (x:Ext w w'):Own w' b e sz v n cs:=by
 refine h.kept (row:=none) ⟨Below.os x,Below.tape x,Below.output x,Below.size x,fun k hk _=>x.block hk⟩ ?_
 cases hv:v.ownBlock<;>simp
theorem Own.blk {w:World} {b e sz n:Nat} {v:Value} {cs:List Value} (h:Own w b e sz v n cs) {k:Nat} (hk:v.ownBlock=some k):b≤k∧k<w.heap.size:=by
 obtain ⟨-,⟨rfl,-⟩|⟨g,cap,cur,rfl,hg,hh,-⟩⟩:=h
 · simp [Value.ownBlock] at hk
 · simp [Value.ownBlock] at hk
   subst hk
   refine ⟨hg,?_⟩
   rcases Nat.lt_or_ge g w.heap.size with h'|h'
   · exact h'
   · rw [Array.getElem?_eq_none h'] at hh;cases hh
theorem Own.fr {S:Nat→Prop} {w w':World} {b e sz n:Nat} {v:Value} {cs:List Value} (h:Own w b e sz v n cs) (x:Fr S w w') (hs : ∀k,v.ownBlock=some k → ¬S k):Own w' b e sz v n cs:=by
 have hb : ∀k,v.ownBlock=some k→b≤k∧k<w.heap.size:=fun k hk=>h.blk hk
 obtain ⟨h1,h2|⟨g,cap,cur,rfl,hg,hh,h3⟩⟩:=h
 · exact ⟨h1,Or.inl h2⟩
 · obtain ⟨-,hlt⟩:=hb g rfl
   exact ⟨h1,Or.inr ⟨g,cap,cur,rfl,hg,by rw [x.block g hlt (hs g rfl)];exact hh,h3⟩⟩
theorem Own.row {w:World} {b e sz n:Nat} {v:Value} {cs:List Value} (h:Own w b e sz v n cs):(v = .slice none 0 0∧n=0∧cs=[]) ∨ ∃g cap,v = .slice (some ⟨g,0,none⟩) n cap∧b≤g∧v.ownBlock=some g∧Row w ⟨g,0,none⟩ cs:=by
 obtain ⟨h1,⟨rfl,rfl⟩|⟨g,cap,cur,rfl,hg,hh,-,-,-,h3⟩⟩:=h
 · exact Or.inl ⟨rfl,rfl,by simpa using h1⟩
 · refine Or.inr ⟨g,cap,rfl,hg,rfl,fun i u hi=>?_⟩
   have e:(⟨g,0,none⟩:Addr).add i=⟨g,i,none⟩:=by unfold Addr.add;by_cases h0:i=0<;>simp [h0]
   rw [e]
   rw [←h3] at hi
   have hi':cur.toList[i]? = some u:=by
    rw [List.getElem?_take] at hi
    split at hi
    · exact hi
    · cases hi
   simpa [World.cell?,hh] using hi'
def Wz (w:World) (b:Nat) (e:TypeId) (sz:Nat) (v:Value) (n:Nat) (cs:List Value):Option Value→World→Prop
 | some v',w'=>Own w' b e sz v' n cs∧Fr (fun k=>v.ownBlock=some k) w w' ∧ ∃g cap,v' = .slice (some ⟨g,0,none⟩) n cap∧(v.ownBlock=some g∨w.heap.size≤g)
 | none,_=>False
def DT (P:Program) (e:TypeId):Bool:=match P.info? e with
 | some i=>Nat.ble i.bytes 1000
 | none=>false
theorem PA (v:Value):Value.one v=v.oneCell':=by cases v<;>rfl
section app
variable {P:Program} {n:Nat} {l:Sl} {w:World} {tab:Tab} {zt:EL} {ty:TypeId}
theorem Fz {x y:Operand} {t e sz1 sz b k m cap:Nat} {sE:Sk} {zs:List Value} {v:Value} {cs us:List Value} {p:Addr} (T:TabOk P tab) (Z:CO P zt) (ht:AL tab t=some (.slice e,sz1)) (hE:AL tab e=some (sE,sz)) (hz:Dx zt e=some zs) (hzl:zs.length=sz)
 (hby:DT P e=true) (hsz:Nat.blt 0 sz=true) (hx:ev l x=some v) (hy:ev l y=some (.slice (some p) m cap)) (hown:Own w b e sz v k cs) (hr:Row w p us) (hul:us.length=m*sz) (hu:us.all Value.one=true) (hkm:k+m≤100000000000) (hm0:0<k+m) (hb:b≤w.heap.size) :
 Cj P n l (.call ⟨.builtin .append,#[x,y],#[t,t]⟩) ty w (Wz w b e sz v (k+m) (cs++us)):=by
 unfold Cj
 intro a dst pos after g next Q ha hn _
 obtain ⟨i,v0,z1,z2,z3⟩:=Fc Z hz
 obtain ⟨i',hi',hs'⟩:=(T _ _ _ hE).info
 rw [z1] at hi'
 obtain rfl:=Option.some.inj hi'
 have hbb:i.bytes≤1000:=by
  unfold DT at hby
  rw [z1] at hby
  exact Nat.le_of_ble_eq_true hby
 have hzs:v0.cells.size=sz:=by rw [z3];simpa using hzl
 have hsz':0<sz:=Nat.le_of_ble_eq_true hsz
 have hbytes:(k+m)*i.bytes≤140737488355328:=by have:=Nat.mul_le_mul hkm hbb;omega
 have hnews : ∀j u,us[j]? = some u→w.cell? (p.add j)=some u:=fun j u hj=>hr j u hj
 have h1c : ∀u∈us,u.oneCell'=true:=fun u hm=>by rw [←PA];exact List.all_eq_true.1 hu u hm
 have hu':P.underlying t=some (.slice e):=(T _ _ _ ht).under
 obtain ⟨v',w',hrun,h1,h2,h3⟩:=run_append_own (P:=P) w b t ty e i v0 sz i.bytes hu' z1 z2 hs' rfl hzs hsz' v k cs hown p m cap us hul hnews h1c (by unfold maxLen;omega) hbytes hb
 have hwhere : ∃g cap',v' = .slice (some ⟨g,0,none⟩) (k+m) cap'∧(v.ownBlock=some g∨w.heap.size≤g):=by
  subst hs'
  rcases hown.2 with ⟨rfl,rfl⟩|⟨g,cap',cur,rfl,hbg,hg,hnc,hcm,hcs,htake⟩
  · by_cases hm:m=0
    · omega
    · have hr':=run_append_nil (P:=P) w t ty e i v0 hu' z1 z2 p m cap us hul hnews (by omega) (by omega) (by have hb:=hbytes;simp only [Nat.zero_add] at hb;omega)
      rw [hr'] at hrun
      simp only [Result.ok.injEq] at hrun
      exact ⟨w.heap.size,_,by rw [←hrun.1,Nat.zero_add],Or.inr (Nat.le_refl _)⟩
  · by_cases hroom:k+m≤cap'
    · have hfit:k*i.size+us.length≤cur.size:=by rw [hul,hcs,←Nat.add_mul];exact Nat.mul_le_mul_right _ hroom
      have hr':=run_append_room (P:=P) w t ty e i hu' z1 g k cap' cur hg p m cap us hul hnews h1c hroom hfit
      rw [hr'] at hrun
      simp only [Result.ok.injEq] at hrun
      exact ⟨g,_,hrun.1.symm,Or.inl rfl⟩
    · have holds : ∀j u,cs[j]? = some u→w.cell? ((⟨g,0,none⟩:Addr).add j)=some u:=hown.cells (g:=g) rfl
      have hr':=run_append_grow (P:=P) w t ty e i v0 hu' z1 z2 ⟨g,0,none⟩ k cap' cs hown.1 holds p m cap us hul hnews (by omega) (by omega) (growslice_fits (by omega) hbytes)
      rw [hr'] at hrun
      simp only [Result.ok.injEq] at hrun
      exact ⟨w.heap.size,_,hrun.1.symm,Or.inr (Nat.le_refl _)⟩
 have e1:(execOp a.eval ⟨dst,.call ⟨.builtin .append,#[x,y],#[t,t]⟩,ty,pos,after,g⟩).run P w = .ok (.value v') w':=by
  simp only [execOp,resolve,invoke,builtin,Sem.run_bind,Sem.run_pure,Result.andThen_ok,List.map_toArray,List.map_cons,List.map_nil,ha.ev hx,ha.ev hy,hrun]
 unfold Oper.wp
 rw [e1]
 exact hn v' w' ⟨h1,⟨h2.os,h2.tape,h2.output,h2.size,fun j hj hs=>h2.block j hj (fun e=>hs e.symm)⟩,hwhere⟩
end app
def BH (es:List MapEntry) (kvs:List (List UInt8×Value)):Prop:=es.map (fun e=>(e.key,e.val))=kvs.map (fun p=>(str p.1,p.2))
def MapIs (w:World) (r:Nat) (kvs:List (List UInt8×Value)):Prop:= ∃es clock,w.heap[r]? = some (.map es clock)∧BH es.toList kvs
def Ii:List (List UInt8×Value)→List UInt8→Option Value
 | [],_=>none
 | p::r,k=>if k=p.1 then some p.2 else Ii r k
def JC:List (List UInt8×Value)→List UInt8→Value→List (List UInt8×Value)
 | [],k,v=>[(k,v)]
 | p::r,k,v=>if k=p.1 then (p.1,v)::r else p::JC r k v
theorem MapIs.lt {w:World} {r:Nat} {kvs:List (List UInt8×Value)} (h:MapIs w r kvs):r<w.heap.size:=by
 obtain ⟨es,c,h,-⟩:=h
 rcases Nat.lt_or_ge r w.heap.size with h'|h'
 · exact h'
 · rw [Array.getElem?_eq_none h'] at h;cases h
theorem MapIs.ext {w w':World} {r:Nat} {kvs:List (List UInt8×Value)} (h:MapIs w r kvs) (x:Ext w w'):MapIs w' r kvs:=by
 have hl:=h.lt
 obtain ⟨es,c,h,e⟩:=h
 exact ⟨es,c,by rw [x.block hl];exact h,e⟩
theorem MapIs.fr {S:Nat→Prop} {w w':World} {r:Nat} {kvs:List (List UInt8×Value)} (h:MapIs w r kvs) (x:Fr S w w') (hs : ¬S r):MapIs w' r kvs:=by
 have hl:=h.lt
 obtain ⟨es,c,h,e⟩:=h
 exact ⟨es,c,by rw [x.block r hl hs];exact h,e⟩
theorem PB (b:ByteArray) (x:List UInt8):(b==(⟨x.toArray⟩:ByteArray))=(b.data.toList==x):=by
 show (b.data==x.toArray)=_
 rw [Bool.eq_iff_iff];simp
 constructor
 · intro h;rw [h]
 · intro h;rw [←h]
theorem Ji : ∀(es:List MapEntry) (kvs:List (List UInt8×Value)) (k:List UInt8) (i:Nat),BH es kvs →
 ∃o,Instr.findNow .string (str k) es i=some o∧(o.map (·.2)=Ii kvs k) ∧ ∀j v,o=some (j,v)→i≤j ∧ ∃e,es[j-i]? = some e∧e.key=str k ∧ ∀v',BH (es.set (j-i) { e with key:=str k,val:=v' }) (JC kvs k v')
 | [],[],k,i,_=>⟨none,rfl,rfl,fun _ _ h=>by cases h⟩
 | [],_::_,_,_,h=>by simp [BH] at h
 | _::_,[],_,_,h=>by simp [BH] at h
 | e::es,(k',v')::kvs,k,i,h=>by
  simp only [BH,List.map_cons,List.cons.injEq,Prod.mk.injEq] at h
  obtain ⟨⟨hk,hv⟩,hr⟩:=h
  have hs:Instr.sameNow .string (str k) e.key=some (decide (k=k')):=by
   rw [hk]
   simp only [Instr.sameNow]
   rw [PB]
   simp [Ib]
  by_cases hkk:k=k'
  · subst hkk
    refine ⟨some (i,e.val),by simp [Instr.findNow,hs],by simp [Ii,hv],fun j v h=>?_⟩
    simp only [Option.some.injEq,Prod.mk.injEq] at h
    obtain ⟨rfl,-⟩:=h
    refine ⟨Nat.le_refl _,e,by simp,hk,fun v'=>?_⟩
    simp [BH,JC,hr]
  · obtain ⟨o,h1,h2,h3⟩:=Ji es kvs k (i+1) hr
    refine ⟨o,by simp [Instr.findNow,hs,hkk,h1],by simp [Ii,hkk,h2],fun j v h=>?_⟩
    obtain ⟨g1,e',g2,g3,g4⟩:=h3 j v h
    have hj:j-i=(j-(i+1))+1:=by omega
    refine ⟨by omega,e',by rw [hj];simpa using g2,g3,fun v'=>?_⟩
    rw [hj]
    have:=g4 v'
    simp only [BH] at this ⊢
    simp [JC,hkk,hk,hv,this]
section maps
variable {P:Program} {n:Nat} {l:Sl} {w:World} {tab:Tab} {zt:EL} {ty:TypeId}
theorem run_findKey {kt:Nat} (hk:P.underlying kt=some .string) {es:List MapEntry} {kvs:List (List UInt8×Value)} {k:List UInt8} (h:BH es kvs) (w:World) :
 ∃o,(Instr.findKey kt (str k) es).run P w = .ok o w∧(o.map (·.2)=Ii kvs k) ∧ ∀j v,o=some (j,v) → ∃e,es[j]? = some e∧e.key=str k ∧ ∀v',BH (es.set j { e with key:=str k,val:=v' }) (JC kvs k v'):=by
 obtain ⟨o,h1,h2,h3⟩:=Ji es kvs k 0 h
 refine ⟨o,by simp [Instr.findKey,AG hk,Result.andThen,h1],h2,fun j v hj=>?_⟩
 obtain ⟨-,e,g2,g3,g4⟩:=h3 j v hj
 exact ⟨e,by simpa using g2,g3,by simpa using g4⟩
theorem run_checkKey {kt:Nat} (hk:P.underlying kt=some .string) (b:Bool) (k:List UInt8) (w:World):(Instr.checkKey b 10000 kt (str k)).run P w = .ok () w:=by
 rw [show (10000:Nat)=9999+1 from rfl,Instr.checkKey]
 simp [AG hk,Result.andThen]
def JH (o:Option Value) (z:Value) (c:Bool):Value:=if c then .tuple #[o.getD z,.bool o.isSome] else o.getD z
theorem JR {S:World→Prop} {x y:Operand} {t kt e sz1 sz2 r:Nat} {c:Bool} {k:List UInt8} {z:Value} {kvs:List (List UInt8×Value)} (T:TabOk P tab) (ht:AL tab t=some (.map kt e,sz1)) (hkt:AL tab kt=some (.str,sz2)) (hz:((P.info? e).bind (·.zero))=some z)
 (hx:ev l x=some (.map (some r))) (hy:ev l y=some (str k)) (hm : ∀w,S w→MapIs w r kvs):BE P n l S (.lookup t x y c) ty (JH (Ii kvs k) z c):=by
 unfold BE
 intro a w dst pos after g ha hS
 have hu:P.underlying t=some (.map kt e):=(T _ _ _ ht).under
 have hk:P.underlying kt=some .string:=(T _ _ _ hkt).under
 obtain ⟨es,clock,hh,he⟩:=hm w hS
 obtain ⟨i0,z1,z2⟩ : ∃i,P.info? e=some i∧i.zero=some z:=by
  cases hi:P.info? e with
  | none=>rw [hi] at hz;cases hz
  | some i=>exact ⟨i,rfl,by simpa [hi] using hz⟩
 obtain ⟨o,h1,h2,-⟩:=run_findKey hk (k:=k) he w
 have hzv:(zeroValue e).run P w = .ok z w:=by simp [zeroValue,typeInfo,program,Sem.run,z1,z2,bind,Sem.bind,pure]
 have e1:(Instr.lookup t (.map (some r)) (str k) c).run P w = .ok (JH (Ii kvs k) z c) w:=by
  have hg:(getObj r).run P w = .ok (.map es clock) w:=by simp [getObj,Sem.run,hh]
  simp only [Instr.lookup,Sem.run_bind,AG hu,Result.andThen,hg,Sem.run_pure,run_checkKey hk,h1]
  rw [←h2]
  cases o with
  | none=>simp [hzv,JH]
  | some q=>simp [JH]
 simp only [execOp,ha.ev hx,ha.ev hy,Sem.run_bind,e1,Result.andThen,Sem.run_pure]
def U5 (w:World):Option Value→World→Prop
 | some v,w1=> ∃r,v = .map (some r)∧r=w.heap.size∧MapIs w1 r []∧Ext w w1∧w1.heap.size=r+1
 | none,_=>False
theorem Ma {t:Nat}:Cj P n l (.makeMap t none) ty w (U5 w):=by
 unfold Cj
 intro a dst pos after g next Q ha hn _
 have e1:(execOp a.eval ⟨dst,.makeMap t none,ty,pos,after,g⟩).run P w = .ok (.value (.map (some w.heap.size))) (w.alloc (.map #[] 0)):=by
  simp [execOp,Instr.makeMap,newObj,Sem.run,bind,Sem.bind,pure]
 unfold Oper.wp
 rw [e1]
 exact hn _ _ ⟨_,rfl,rfl,⟨#[],0,by show (w.heap.push _)[w.heap.size]? = _;simp,by simp [BH]⟩,(Ext.refl w).alloc _,by show (w.heap.push _).size=_;simp⟩
def U6 (w:World) (r:Nat) (kvs:List (List UInt8×Value)):Option Value→World→Prop
 | none,w1=>MapIs w1 r kvs∧Fr (· = r) w w1∧w1.heap.size=w.heap.size
 | some _,_=>False
theorem JS (w:World) (r:Nat) (o o':Obj) (h:w.heap[r]? = some o):({ w with heap:=w.heap.setIfInBounds r o' }:World).heap[r]? = some o'∧Fr (· = r) w { w with heap:=w.heap.setIfInBounds r o' }:=by
 have hlt:r<w.heap.size:=(Array.getElem?_eq_some_iff.1 h).1
 refine ⟨by simp [hlt],rfl,rfl,rfl,by simp,fun k hk hs=>?_⟩
 exact Array.getElem?_setIfInBounds_ne (fun e=>hs e.symm)
theorem Lg {t kt e sz1 sz2 r:Nat} {k:List UInt8} {v:Value} {kvs:List (List UInt8×Value)} (T:TabOk P tab) (ht:AL tab t=some (.map kt e,sz1)) (hkt:AL tab kt=some (.str,sz2)) (hm:MapIs w r kvs) :
 ∃w1,(Instr.mapUpdate t (.map (some r)) (str k) v).run P w = .ok () w1∧MapIs w1 r (JC kvs k v)∧Fr (· = r) w w1∧w1.heap.size=w.heap.size:=by
 have hu:P.underlying t=some (.map kt e):=(T _ _ _ ht).under
 have hk:P.underlying kt=some .string:=(T _ _ _ hkt).under
 obtain ⟨es,clock,hh,he⟩:=hm
 obtain ⟨o,h1,h2,h3⟩:=run_findKey hk (k:=k) he w
 have hg:(getObj r).run P w = .ok (.map es clock) w:=by simp [getObj,Sem.run,hh]
 have hset : ∀ob,(setObj r ob).run P w = .ok () { w with heap:=w.heap.setIfInBounds r ob }:=fun ob=>by simp [setObj,Sem.run,hh]
 cases o with
 | none=>
  have hgs:Ii kvs k=none:=by simpa using h2.symm
  obtain ⟨p1,p2⟩:=JS w r _ (.map (es.push { key:=str k,val:=v,born:=clock }) (clock+1)) hh
  refine ⟨_,?_,⟨_,_,p1,?_⟩,p2,by simp⟩
  · simp only [Instr.mapUpdate,Sem.run_bind,AG hu,Result.andThen,hg,run_checkKey hk,h1,hset]
  · have key : ∀(es:List MapEntry) (kvs:List (List UInt8×Value)),BH es kvs→Ii kvs k=none→BH (es++[{ key:=str k,val:=v,born:=clock }]) (JC kvs k v):=by
     intro es kvs
     induction kvs generalizing es with
     | nil=>intro h _;cases es with|nil=>simp [BH,JC]|cons _ _=>simp [BH] at h
     | cons p r ih=>
      intro h hn
      cases es with
      | nil=>simp [BH] at h
      | cons e es=>
       simp only [Ii] at hn
       split at hn
       · cases hn
       · rename_i hne
         simp only [BH,List.map_cons,List.cons.injEq] at h
         have:=ih es h.2 hn
         simp only [BH] at this ⊢
         simp [JC,hne,h.1,this]
    simpa using key es.toList kvs he hgs
 | some q=>
  obtain ⟨j,u⟩:=q
  obtain ⟨en,g1,g2,g3⟩:=h3 j u rfl
  have hkey:(Instr.keyThatStays (((es[j]?).map (·.key)).getD (str k)) (str k)).run P w = .ok (str k) w:=by
   have:es[j]? = some en:=by simpa using g1
   rw [this]
   have hb:((⟨k.toArray⟩:ByteArray)==⟨k.toArray⟩)=true:=by rw [PB];simp
   simp [Instr.keyThatStays,g2,Instr.sameBits,hb]
  obtain ⟨p1,p2⟩:=JS w r _ (.map (es.modify j fun e=>{ e with key:=str k,val:=v }) clock) hh
  refine ⟨_,?_,⟨_,_,p1,?_⟩,p2,by simp⟩
  · simp only [Instr.mapUpdate,Sem.run_bind,AG hu,Result.andThen,hg,run_checkKey hk,h1,hkey,hset]
  · have:=g3 v
    have e:(es.modify j fun e=>{ e with key:=str k,val:=v }).toList=es.toList.set j { en with key:=str k,val:=v }:=by
     apply List.ext_getElem?
     intro i
     have gj:es[j]? = some en:=by simpa using g1
     rw [Array.getElem?_toList,Array.getElem?_modify,List.getElem?_set]
     by_cases hij:j=i
     · subst hij
       have hlt:j<es.size:=(Array.getElem?_eq_some_iff.1 gj).1
       rw [if_pos rfl,if_pos rfl,gj];simp [hlt]
     · simp [hij]
    rw [e];exact this
end maps
section strs
variable {P:Program} {n:Nat} {l:Sl} {S:World→Prop} {tab:Tab} {ty:TypeId} {x y z:Operand} {t t' sz:Nat} {a:List UInt8}
theorem JI (a:List UInt8):(⟨a.toArray⟩:ByteArray).size=a.length:=by simp [ByteArray.size]
theorem JT (a:List UInt8) (i j:Nat):(⟨a.toArray⟩:ByteArray).extract i j=⟨((a.take j).drop i).toArray⟩:=by
 apply ByteArray.ext
 simp [ByteArray.data_extract,List.drop_take]
theorem Fd {k:IntKind} {i:Int} {m:Nat} {code:BoundsCode} (h0:0≤i) (h1:i≤m) (w:World):(Instr.sliceBound (.int k i) m code).run P w = .ok i.toNat w:=by
 simp [Instr.sliceBound,asIntOf,h0,h1]
theorem Qq {k:IntKind} {i:Int} (T:TabOk P tab) (ht:AL tab t=some (.str,sz)) (hx:ev l x=some (str a)) (hy:ev l y=some (.int k i)) (h0:0≤i) (h1:i≤a.length):BE P n l S (.slice t x (some y) none none) ty (str (a.drop i.toNat)):=by
 unfold BE
 intro b w dst pos after g ha _
 have hu:P.underlying t=some .string:=(T _ _ _ ht).under
 have e:(Instr.sliceAt t (str a) (some (.int k i)) none none).run P w = .ok (str (a.drop i.toNat)) w:=by
  have e2:=JT a i.toNat a.length
  simp only [Instr.sliceAt,Sem.run_bind,AG hu,Result.andThen,Instr.slice,Option.isSome_none,Bool.false_eq_true,if_false,Instr.sliceBounds,Sem.run_pure,JI,Fd h0 h1]
  simp [e2]
 simp [execOp,ha.ev hx,ha.ev hy,e]
theorem Qr {k k':IntKind} {i j:Int} (T:TabOk P tab) (ht:AL tab t=some (.str,sz)) (hx:ev l x=some (str a)) (hy:ev l y=some (.int k i)) (hz:ev l z=some (.int k' j)) (h0:0≤i) (h1:i≤j) (h2:j≤a.length):BE P n l S (.slice t x (some y) (some z) none) ty (str ((a.take j.toNat).drop i.toNat)):=by
 unfold BE
 intro b w dst pos after g ha _
 have hu:P.underlying t=some .string:=(T _ _ _ ht).under
 have e:(Instr.sliceAt t (str a) (some (.int k i)) (some (.int k' j)) none).run P w = .ok (str ((a.take j.toNat).drop i.toNat)) w:=by
  have e2:=JT a i.toNat j.toNat
  simp only [Instr.sliceAt,Sem.run_bind,AG hu,Result.andThen,Instr.slice,Option.isSome_none,Bool.false_eq_true,if_false,Instr.sliceBounds,Sem.run_pure,JI,Fd (show 0≤j by omega) h2]
  rw [Fd h0 (by omega)]
  simp [e2]
 simp [execOp,ha.ev hx,ha.ev hy,ha.ev hz,e]
theorem RU {k k':IntKind} {i m:Int} (T:TabOk P tab) {sz':Nat} (ht:AL tab t=some (.int k,sz)) (ht':AL tab t'=some (.int k',sz')) {k0:IntKind} (hx:ev l x=some (.int k0 i)) (hm:k'.wrap i=m):BE P n l S (.convert t t' x) ty (.int k' m):=by
 unfold BE
 intro b w dst pos after g ha _
 have hu:P.underlying t=some (.int k):=(T _ _ _ ht).under
 have hu':P.underlying t'=some (.int k'):=(T _ _ _ ht').under
 subst hm
 simp [execOp,ha.ev hx,convert,AG hu,AG hu',Result.andThen,Conv.intToInt]
end strs
theorem Tz (i:Int) (h0:0≤i) (h1:i≤255):IntKind.u8.wrap i=i:=by rw [IntKind.wrap];simp [IntKind.signed,IntKind.bits];omega
theorem Ext.ext {a b c:World} (h:Ext a b) (x:Ext b c):Ext a c:=h.trans x
theorem Fr.ext {S:Nat→Prop} {a b c:World} (h:Fr S a b) (x:Ext b c):Fr S a c:=h.trans (.of_ext x)
theorem Ext.fr {S:Nat→Prop} {a b c:World} (h:Ext a b) (x:Fr S b c) (hs : ∀k,S k→a.heap.size≤k):Ext a c:=
 ⟨x.os.trans (Below.os h),x.tape.trans (Below.tape h),x.output.trans (Below.output h),Nat.le_trans h.size x.size,
  fun k hk=>(x.block k (Nat.lt_of_lt_of_le hk h.size) (fun hS=>by have:=hs k hS;omega)).trans (h.block hk)⟩
theorem Fr.fr {S T:Nat→Prop} {a b c:World} (h:Fr T a b) (x:Fr S b c) (hs : ∀k,S k→T k∨a.heap.size≤k):Fr T a c:=
 ⟨x.os.trans h.os,x.tape.trans h.tape,x.output.trans h.output,Nat.le_trans h.size x.size,
  fun k hk hT=>(x.block k (Nat.lt_of_lt_of_le hk h.size) (fun hS=>by rcases hs k hS with h|h;exact hT h;omega)).trans (h.block k hk hT)⟩
theorem TB.fr {S:Nat→Prop} {w w':World} {b:Nat} {vs:List Value} {T:TypeId} (h:TB w b vs T) (x:Fr S w w') (hs : ¬S b):TB w' b vs T:=(x.block b h.blk.lt hs).trans h
theorem Fr.weaken {S T:Nat→Prop} {w w':World} (h:Fr S w w') (k : ∀b,S b→T b):Fr T w w':=⟨h.os,h.tape,h.output,h.size,fun b hb hT=>h.block b hb (fun hS=>hT (k b hS))⟩
section code
variable {P:Program} {n:Nat} {Q:Exit→Act→World→Prop} {l:Sl} {w:World} {c:Operand} {x y:Code}
theorem BS {p:Prop} [Decidable p] [Decidable (¬p)] (hc:ev l c=some (.bool (decide (¬p)))) (ht : ¬p→CW P n x Q l w) (hf:p→CW P n y Q l w):CW P n (.cond c x y) Q l w:=
 AO hc ht (fun h=>hf (Decidable.not_not.1 h))
theorem UU {q:Bool} (hc:ev l c=some (.bool (!q))) (hq:q=false) (h:CW P n x Q l w):CW P n (.cond c x y) Q l w:=Ec hc (by simp [hq]) h
theorem UV {q:Bool} (hc:ev l c=some (.bool (!q))) (hq:q=true) (h:CW P n y Q l w):CW P n (.cond c x y) Q l w:=Fa hc (by simp [hq]) h
theorem JU {q:Bool} (hc:ev l c=some (.bool (!q))) (ht:q=false→CW P n x Q l w) (hf:q=true→CW P n y Q l w):CW P n (.cond c x y) Q l w:=
 JF hc (fun e=>ht (by simpa using e)) (fun e=>hf (by simpa using e))
variable {ops:Array Oper} {rest:List Oper} {tab:Tab} {d:Nat} {ty:TypeId} {pos:String} {after:Array Edge}
theorem CP {o:Oper} {g:Nat×Bool} {dj:Nat} {p:Prop} [Decidable p] (_:o.guard=some g) (_:BX ops g.1=some dj) (_:look l dj=some (.bool (decide p))) (ht:p→LW P n ops Q (o::rest) l w) (hf : ¬p→LW P n ops Q (o::rest) l w):LW P n ops Q (o::rest) l w:=by
 by_cases h:p
 · exact ht h
 · exact hf h
theorem A2 {a:Operand} {t sz b o:Nat} {s:Sk} {vs:List Value} {v:Value} (T:TabOk P tab) (ht:AL tab t=some (s,sz)) (hs:s.agg=false) (hx:ev l a=some (.pointer (some ⟨b,o,none⟩)))
 (hb:Blk w b vs) (hv:vs[o]? = some v) (hd:Nat.blt d n=true) (k:LW P n ops Q rest ((d,v)::l) w):LW P n ops Q (⟨some d,.load t a,ty,pos,after,none⟩::rest) l w:=
 Ab (Al T ht hs hx (fun wz hz=>by subst hz;exact hb.cell hv)) hd k
theorem Dn {a:Operand} {t sz b o i:Nat} {s:Sk} {vs:List Value} {v:Value} (T:TabOk P tab) (ht:AL tab t=some (s,sz)) (hs:s.agg=false) (hx:ev l a=some (.pointer (some ⟨b,o+i,none⟩)))
 (hb:Row w ⟨b,o,none⟩ vs) (hv:vs[i]? = some v) (hd:Nat.blt d n=true) (k:LW P n ops Q rest ((d,v)::l) w):LW P n ops Q (⟨some d,.load t a,ty,pos,after,none⟩::rest) l w:=
 Ab (Al T ht hs hx (fun wz hz=>by subst hz;exact hb.at hv)) hd k
theorem Dy {a:Operand} {t sz b o:Nat} {s:Sk} {vs:List Value} {v:Value} (T:TabOk P tab) (ht:AL tab t=some (s,sz)) (hs:s.agg=false) (hx:ev l a=some (.pointer (some ⟨b,o,none⟩)))
 (hb:Row w ⟨b,o,none⟩ vs) (hv:vs[0]? = some v) (hd:Nat.blt d n=true) (k:LW P n ops Q rest ((d,v)::l) w):LW P n ops Q (⟨some d,.load t a,ty,pos,after,none⟩::rest) l w:=
 Ab (Al T ht hs hx (fun wz hz=>by subst hz;exact hb.at0 hv)) hd k
theorem Ov {a:Operand} {t sz b o:Nat} {s:Sk} {vs:List Value} (T:TabOk P tab) (ht:AL tab t=some (s,sz)) (hs:s.agg=true) (hx:ev l a=some (.pointer (some ⟨b,o,none⟩)))
 (hb:Blk w b vs) (hl:Nat.ble (o+sz) vs.length=true) (hd:Nat.blt d n=true) (k:LW P n ops Q rest ((d,.agg ((vs.drop o).take sz).toArray)::l) w):LW P n ops Q (⟨some d,.load t a,ty,pos,after,none⟩::rest) l w:=
 Ab (Dm T ht hs hx (fun wz hz=>by subst hz;exact hb) hl) hd k
theorem Ow {a:Operand} {t sz b o i:Nat} {s:Sk} {vs:List Value} (T:TabOk P tab) (ht:AL tab t=some (s,sz)) (hs:s.agg=true) (hx:ev l a=some (.pointer (some ⟨b,o+i,none⟩)))
 (hb:Row w ⟨b,o,none⟩ vs) (hl:Nat.ble (i+sz) vs.length=true) (hd:Nat.blt d n=true) (k:LW P n ops Q rest ((d,.agg ((vs.drop i).take sz).toArray)::l) w):LW P n ops Q (⟨some d,.load t a,ty,pos,after,none⟩::rest) l w:=
 Ab (G8 T ht hs hx (fun wz hz=>by subst hz;exact hb) hl) hd k
theorem UW {a:Operand} {t sz b o:Nat} {s:Sk} {vs:List Value} (T:TabOk P tab) (ht:AL tab t=some (s,sz)) (hs:s.agg=true) (hx:ev l a=some (.pointer (some ⟨b,o,none⟩)))
 (hb:Row w ⟨b,o,none⟩ vs) (hl:vs.length=sz) (hd:Nat.blt d n=true) (k:LW P n ops Q rest ((d,.agg vs.toArray)::l) w):LW P n ops Q (⟨some d,.load t a,ty,pos,after,none⟩::rest) l w:=
 Ab (BF T ht hs hx (fun wz hz=>by subst hz;exact hb) hl) hd k
theorem Mb {fn:Func} {R:Ending→World→Prop} {t u s:Nat} {v x z:Value} (h:fn.results = #[.tmp t,.tmp u,.tmp s]) (hv:look l t=some v) (hx:look l u=some x) (hz:look l s=some z) (hR:R (.returned (.tuple #[v,x,z])) w):QW n (bodyPost P fn R) .ret l w:=by
 unfold QW
 exact fun a ha=>⟨ha.defers,.tuple #[a.tmps.getD t undef,a.tmps.getD u undef,a.tmps.getD s undef],by simp [results,h],by rw [ha.has t v hv,ha.has u x hx,ha.has s z hz];exact hR⟩
end code
def Ij (ops:Array Oper) (j i:Nat):Bool:=match ops[j]? with
 | none=>false
 | some o=>o.after.any fun e=>Region.binds .any e&&Nat.beq e.on i
def DC (ops:Array Oper) (listed:Array Bool):Prop:= ∀k o,ops[k]? = some o→listed.getD k false=true → ∀e∈o.after,Region.binds .any e=true→listed.getD e.on false=true
theorem Et {ops:Array Oper} {j i:Nat} (h:Ij ops j i=true) : ∃o e,ops[j]? = some o∧e∈o.after∧Region.binds .any e=true∧e.on=i:=by
 unfold Ij at h
 split at h
 · cases h
 · rename_i o ho
   obtain ⟨e,he,hb⟩:=Array.any_eq_true'.1 h
   simp only [Bool.and_eq_true] at hb
   exact ⟨o,e,ho,he,hb.1,Nat.eq_of_beq_eq_true hb.2⟩
def ES (ops:Array Oper) (K i:Nat):Prop:= ∀(listed:Array Bool) (j:Nat) (o:Oper),DC ops listed→K≤j→ops[j]? = some o→(∀e∈o.after,Region.binds .any e=true→listed.getD e.on false=true)→listed.getD i false=true
def JV (ops:Array Oper) (K:Nat):Bool:=((List.range K).all fun i=>(List.range' (i+1) (K-i)).any fun j=>Ij ops j i)&&((List.range' (K+1) (ops.size-(K+1))).all fun j=>(List.range' K (j-K)).any fun i=>Ij ops j i)
theorem FI {ops:Array Oper} {K:Nat} (h:JV ops K=true) (hK:K<ops.size) : ∀i,i<K→ES ops K i:=by
 simp only [JV,Bool.and_eq_true,List.all_eq_true,List.mem_range,List.any_eq_true,List.mem_range'_1] at h
 obtain ⟨h1,h2⟩:=h
 intro i hi listed j o hdc hj ho hall
 have hKp : ∀m j o,j≤K+m→K≤j→ops[j]? = some o→(∀e∈o.after,Region.binds .any e=true→listed.getD e.on false=true) → ∀oK,ops[K]? = some oK → ∀e∈oK.after,Region.binds .any e=true→listed.getD e.on false=true:=by
  intro m
  induction m with
  | zero=>
   intro j o hm hj ho hall oK hoK
   have:j=K:=by omega
   subst this
   rw [ho] at hoK
   obtain rfl:=Option.some.inj hoK
   exact hall
  | succ m ih=>
   intro j o hm hj ho hall oK hoK
   by_cases hjK:j=K
   · subst hjK
     rw [ho] at hoK
     obtain rfl:=Option.some.inj hoK
     exact hall
   · have hjs:j<ops.size:=(Array.getElem?_eq_some_iff.1 ho).1
     obtain ⟨i',hi',hw⟩:=h2 j (by omega)
     obtain ⟨oj,e,hoj,he,hb,hon⟩:=Et hw
     rw [ho] at hoj
     obtain rfl:=Option.some.inj hoj
     have hl:=hall e he hb
     rw [hon] at hl
     have hi's:i'<ops.size:=by omega
     exact ih i' ops[i'] (by omega) hi'.1 (Array.getElem?_eq_getElem hi's) (hdc i' _ (Array.getElem?_eq_getElem hi's) hl) oK hoK
 have hK':=hKp (j-K) j o (by omega) hj ho hall ops[K] (Array.getElem?_eq_getElem hK)
 have key : ∀d i,K-i≤d→i<K→listed.getD i false=true:=by
  intro d
  induction d with
  | zero=>intro i h hi;omega
  | succ d ih=>
   intro i hd hi
   obtain ⟨j',hj',hw⟩:=h1 i hi
   obtain ⟨oj,e,hoj,he,hb,hon⟩:=Et hw
   by_cases hjK:j'=K
   · subst hjK
     rw [Array.getElem?_eq_getElem hK] at hoj
     obtain rfl:=Option.some.inj hoj
     have:=hK' e he hb
     rwa [hon] at this
   · have hl:=ih j' (by omega) (by omega)
     have:=hdc j' oj hoj hl e he hb
     rwa [hon] at this
 exact key (K-i) i (Nat.le_refl _) hi
section
variable {P:Program} {ops:Array Oper} {Q:Exit→Act→World→Prop} {S:World→Prop} {K:Nat}
def GA (P:Program) (ops:Array Oper) (Q:Exit→Act→World→Prop) (S:World→Prop) (K:Nat):Nat→Array Bool→Act→World→Prop
 | 0,listed,a,w=>Region.ready .any ops listed=[]∧Q .normal a w
 | fuel+1,listed,a,w=>
  (Region.ready .any ops listed=[]→Q .normal a w) ∧
  ∀i∈Region.ready .any ops listed,wpOp P ops Q i (fun a' w'=>(i<K→S w')∧GA P ops Q S K fuel (listed.setIfInBounds i true) a' w') a w
theorem JW : ∀(fuel:Nat) (listed:Array Bool) (a:Act) (w:World),GA P ops Q S K fuel listed a w→wpAny P .any ops Q fuel listed a w
 | 0,_,_,_,h=>h
 | fuel+1,_,_,_,h=>⟨h.1,fun i hi=>wpOp_mono (fun a' w' h'=>JW fuel _ a' w' h'.2) (h.2 i hi)⟩
theorem DC.set {listed:Array Bool} (h:DC ops listed) {j:Nat} (hj:j∈Region.ready .any ops listed):DC ops (listed.setIfInBounds j true):=by
 obtain ⟨hjun,oj,hoj,hall⟩:=mem_ready.1 hj
 intro k o hk hl e he hb
 have key:listed.getD e.on false=true:=by
  by_cases hkj:j=k
  · subst hkj
    rw [hoj] at hk
    obtain rfl:=Option.some.inj hk
    exact hall e he hb
  · refine h k o hk ?_ e he hb
    rw [getD_set_ne false hkj] at hl;exact hl
 by_cases hje:j=e.on
 · subst hje
   rcases Nat.lt_or_ge e.on listed.size with h'|h'
   · simp [h']
   · simp [Array.getElem?_eq_none h'] at key
 · rw [getD_set_ne false hje];exact key
theorem Mc {i:Nat} {oi:Oper} {v:Value} (hi:ops[i]? = some oi) (hK:i<K) (hre:ES ops K i) (hsel : ∀(j:Nat) (o:Oper) cs b,ops[j]? = some o→o.op≠.select cs b)
 (hQ : ∀c a w,Q (.panic c) (a.put oi.dst v) w→Q (.panic c) a w) :
 ∀(fuel:Nat) (listed:Array Bool) (a:Act) (w:World),DC ops listed →
  (∀j oj,ops[j]? = some oj→j≠i→listed.getD j true=false→(∀e∈oj.after,Region.binds .any e=true→e.on≠i)→oi.apart ops oj=true) →
  i∈Region.ready .any ops listed→YieldsIf P ops S oi v a→S w →
  GA P ops Q S K fuel (listed.setIfInBounds i true) (a.put oi.dst v) w→GA P ops Q S K (fuel+1) listed a w:=by
 intro fuel
 induction fuel with
 | zero=>
  intro listed a w _ _ hr hy hS H
  refine ⟨fun h=>(by rw [h] at hr;cases hr),fun j hj=>?_⟩
  by_cases hji:j=i
  · subst hji;exact hy.wpOp hi hS ⟨fun _=>hS,H⟩
  · have:=ready_mono hj hji
    rw [H.1] at this
    cases this
 | succ fuel ih=>
  intro listed a w hdc hfree hr hy hS H
  refine ⟨fun h=>(by rw [h] at hr;cases hr),fun j hj=>?_⟩
  by_cases hji:j=i
  · subst hji;exact hy.wpOp hi hS ⟨fun _=>hS,H⟩
  · have h1:=H.2 j (ready_mono hj hji)
    obtain ⟨hjun,oj,hoj,hall⟩:=mem_ready.1 hj
    have hun : ¬listed.getD i false=true:=fun hc=>by
     have h0:=(mem_ready.1 hr).1
     rcases Nat.lt_or_ge i listed.size with h'|h'
     · simp [h'] at h0 hc;rw [h0] at hc;cases hc
     · simp [Array.getElem?_eq_none h'] at hc
    have hjK:j<K:=by
     rcases Nat.lt_or_ge j K with h|h
     · exact h
     · exact absurd (hre listed j oj hdc h hoj hall) hun
    have hnot : ∀e∈oj.after,Region.binds .any e=true→e.on≠i:=fun e he hb heq=>hun (heq▸hall e he hb)
    have h2:=wpOp_putIf hoj (hfree j oj hoj hji hjun hnot) (fun cs b=>hsel i oi cs b hi) (fun cs b=>hsel j oj cs b hoj) hQ hy h1
    have hfree' : ∀k ok,ops[k]? = some ok→k≠i→(listed.setIfInBounds j true).getD k true=false →
     (∀e∈ok.after,Region.binds .any e=true→e.on≠i)→oi.apart ops ok=true:=fun k ok hk hki hun hno=>by
     refine hfree k ok hk hki ?_ hno
     by_cases hjk:j=k
     · subst hjk;exact hjun
     · rw [getD_set_ne true hjk] at hun;exact hun
    refine wpOp_mono (fun a' w' h3=>⟨fun _=>h3.2.1 hjK,ih (listed.setIfInBounds j true) a' w' (hdc.set hj) hfree' (ready_mono hr (Ne.symm hji)) h3.1 (h3.2.1 hjK) ?_⟩) h2
    rw [Array.setIfInBounds_comm _ _ hji]
    exact h3.2.2
end
inductive Sc where
 | done
 | pure (i:Nat) (r:Sc)
 | fork (i:Nat) (x r:Sc)
 | none
 | tail
def Sc.alts:Sc→List Nat
 | .fork i _ r=>i::r.alts
 | _=>[]
def EV (ops:Array Oper):Nat→Nat→Array Bool→Bool
 | 0,_,listed=>(Region.ready .any ops listed).isEmpty
 | f+1,k,listed=>(Region.ready .any ops listed==[k])&&EV ops f (k+1) (listed.setIfInBounds k true)
def Sc.ok (ops:Array Oper) (K:Nat):Bool→Sc→Nat→Array Bool→Bool
 | true,.done,_,listed=>(Region.ready .any ops listed).isEmpty
 | true,.pure i r,f+1,listed=>Nat.blt i K&&(Region.ready .any ops listed).contains i&&Region.free .any ops listed i&&Sc.ok ops K true r f (listed.setIfInBounds i true)
 | true,.fork i x r,f+1,listed=>(Region.ready .any ops listed).all (fun j=>(i::r.alts).contains j)&&(Region.ready .any ops listed).contains i&&Sc.ok ops K true x f (listed.setIfInBounds i true)&&Sc.ok ops K false r (f+1) listed
 | true,.tail,f,listed=>Nat.beq (f+K) ops.size&&EV ops f K listed
 | false,.fork i x r,f+1,listed=>(Region.ready .any ops listed).contains i&&Sc.ok ops K true x f (listed.setIfInBounds i true)&&Sc.ok ops K false r (f+1) listed
 | false,.none,_,_=>true
 | _,_,_,_=>false
def HT (P:Program) (ops:Array Oper) (Q:Exit→Act→World→Prop) (S:World→Prop) (K:Nat):Sc→Act→World→Prop
 | .done,a,w=>Q .normal a w
 | .pure i r,a,w=> ∃o v,ops.toList[i]? = some o∧YieldsIf P ops S o v a∧HT P ops Q S K r (a.put o.dst v) w
 | .fork i x r,a,w=>wpOp P ops Q i (fun a' w'=>S w'∧HT P ops Q S K x a' w') a w∧HT P ops Q S K r a w
 | .none,_,_=>True
 | .tail,a,w=>wpList P ops Q (ops.toList.drop K) a w
theorem I0 {P:Program} {ops:Array Oper} {Q:Exit→Act→World→Prop} {S:World→Prop} {K:Nat} : ∀(f k:Nat) (listed:Array Bool) (a:Act) (w:World),K≤k→f+k=ops.size→EV ops f k listed=true→wpList P ops Q (ops.toList.drop k) a w→GA P ops Q S K f listed a w
 | 0,k,listed,a,w,hk,hf,hc,h=>by
  have:ops.toList.drop k=[]:=List.drop_eq_nil_of_le (by simp;omega)
  rw [this] at h
  exact ⟨by simpa [EV] using hc,h⟩
 | f+1,k,listed,a,w,hk,hf,hc,h=>by
  simp only [EV,Bool.and_eq_true,beq_iff_eq] at hc
  have hlt:k<ops.toList.length:=by simp;omega
  rw [List.drop_eq_getElem_cons hlt] at h
  refine ⟨fun e=>absurd (hc.1.symm.trans e) (by simp),fun i hi=>?_⟩
  rw [hc.1] at hi
  simp only [List.mem_singleton] at hi
  subst hi
  have ho:ops[i]? = some ops.toList[i]:=by simp
  unfold wpList at h
  unfold wpOp
  rw [ho]
  simp only
  split
  · rename_i hw
    rw [if_pos hw] at h
    rcases h with h|h
    · exact Or.inl (Oper.wp_mono (fun a' w' h'=>⟨fun hlt=>by omega,I0 f (i+1) _ a' w' (by omega) (by omega) hc.2 h'⟩) h)
    · exact Or.inr h
  · rename_i hw
    rw [if_neg hw] at h
    exact ⟨fun hlt=>by omega,I0 f (i+1) _ _ w (by omega) (by omega) hc.2 h⟩
theorem HT.any {P:Program} {ops:Array Oper} {Q:Exit→Act→World→Prop} {S:World→Prop} {K:Nat} (hs:Region.noSelect ops=true) (hre : ∀i,i<K→ES ops K i) (hQ:DI Q) :
 ∀(s:Sc) (f:Nat) (listed:Array Bool) (a:Act) (w:World),DC ops listed→S w→HT P ops Q S K s a w →
  (Sc.ok ops K true s f listed=true→GA P ops Q S K f listed a w) ∧
  (Sc.ok ops K false s f listed=true → ∀i∈s.alts,∀f',f=f'+1→wpOp P ops Q i (fun a' w'=>(i<K→S w')∧GA P ops Q S K f' (listed.setIfInBounds i true) a' w') a w)
 | .done,f,listed,a,w,hd,hS,h=>by
  refine ⟨fun hk=>?_,fun hk=>by simp [Sc.ok] at hk⟩
  have hr:Region.ready .any ops listed=[]:=by simpa [Sc.ok] using hk
  cases f with
  | zero=>exact ⟨hr,h⟩
  | succ f=>exact ⟨fun _=>h,by rw [hr];simp⟩
 | .none,f,listed,a,w,hd,hS,h=>⟨fun hk=>by simp [Sc.ok] at hk,fun hk=>by simp [Sc.alts]⟩
 | .tail,f,listed,a,w,hd,hS,h=>⟨fun hk=>by
  simp only [Sc.ok,Bool.and_eq_true] at hk
  exact I0 f K listed a w (Nat.le_refl _) (Nat.eq_of_beq_eq_true hk.1) hk.2 h,fun hk=>by simp [Sc.ok] at hk⟩
 | .pure i r,0,listed,a,w,hd,hS,h=>⟨fun hk=>by simp [Sc.ok] at hk,fun hk=>by simp [Sc.ok] at hk⟩
 | .pure i r,f+1,listed,a,w,hd,hS,h=>⟨fun hk=>by
  simp only [Sc.ok,Bool.and_eq_true] at hk
  obtain ⟨o,v,ho,hy,hr⟩:=h
  have hi:ops[i]? = some o:=by simpa using ho
  have hir:i∈Region.ready .any ops listed:=by simpa using hk.1.1.2
  exact Mc hi (Nat.le_of_ble_eq_true hk.1.1.1) (hre i (Nat.le_of_ble_eq_true hk.1.1.1)) (Region.noSelect_spec hs) (fun c a w=>hQ o.dst v c a w) f listed a w hd (Region.free_spec hi hk.1.2) hir hy hS
   ((HT.any hs hre hQ r f _ _ w (hd.set hir) hS hr).1 hk.2),fun hk=>by simp [Sc.ok] at hk⟩
 | .fork i x r,0,listed,a,w,hd,hS,h=>⟨fun hk=>by simp [Sc.ok] at hk,fun hk=>by simp [Sc.ok] at hk⟩
 | .fork i x r,f+1,listed,a,w,hd,hS,h=>by
  have key:i∈Region.ready .any ops listed→Sc.ok ops K true x f (listed.setIfInBounds i true)=true→wpOp P ops Q i (fun a' w'=>(i<K→S w')∧GA P ops Q S K f (listed.setIfInBounds i true) a' w') a w:=fun hir hk=>
   wpOp_mono (fun a' w' h'=>⟨fun _=>h'.1,(HT.any hs hre hQ x f _ a' w' (hd.set hir) h'.1 h'.2).1 hk⟩) h.1
  have hr:=HT.any hs hre hQ r (f+1) listed a w hd hS h.2
  refine ⟨fun hk=>?_,fun hk j hj f' hf=>?_⟩
  · simp only [Sc.ok,Bool.and_eq_true] at hk
    obtain ⟨⟨⟨h1,h4⟩,h2⟩,h3⟩:=hk
    refine ⟨fun e=>by rw [e] at h4;simp at h4,fun j hj=>?_⟩
    have:=List.all_eq_true.1 h1 j hj
    simp only [List.contains_eq_mem,List.mem_cons,decide_eq_true_eq] at this
    rcases this with rfl|hj'
    · exact key hj h2
    · exact hr.2 h3 j hj' f rfl
  · simp only [Sc.ok,Bool.and_eq_true] at hk
    obtain rfl:f=f':=by omega
    simp only [Sc.alts,List.mem_cons] at hj
    rcases hj with rfl|hj
    · exact key (by simpa using hk.1.1) hk.1.2
    · exact hr.2 hk.2 j hj f rfl
def Lw {α:Type}:Nat→List α→Option (List α)
 | 0,l=>some l
 | _+1,[]=>some []
 | k+1,_::l=>Lw k l
theorem Hm {α:Type} : ∀ {k:Nat} {l m:List α},Lw k l=some m→l.drop k=m
 | 0,l,m,h=>by simpa [Lw] using h
 | _+1,[],m,h=>by simpa [Lw] using h
 | k+1,_::l,m,h=>by simpa using Hm (k:=k) (l:=l) h
theorem B0 {p:Prop} [Decidable p] (h:p):(decide p==true)=true:=by simp [h]
theorem Gw {p:Prop} [Decidable p] (h : ¬p):(decide p==true)=false:=by simp [h]
theorem Cw {p:Prop} [Decidable p] (h:p):(decide p==false)=false:=by simp [h]
theorem BB {p:Prop} [Decidable p] (h : ¬p):(decide p==false)=true:=by simp [h]
def TW (P:Program) (n:Nat) (ops:Array Oper) (Q:Exit→Act→World→Prop) (S:World→Prop) (K:Nat) (s:Sc) (l:Sl) (w:World):Prop:= ∀a,Env n l a→HT P ops Q S K s a w
section draws
variable {P:Program} {n:Nat} {ops:Array Oper} {Q:Exit→Act→World→Prop} {S:World→Prop} {K:Nat} {l:Sl} {w:World}
 {d i:Nat} {ty:TypeId} {pos:String} {after:Array Edge} {r x:Sc}
theorem Ax {id:Nat} {os:List Oper} (S:World→Prop) (K:Nat) (s:Sc) (hm:P.follows .mixedOrders=true) (hs:(Region.noSelect os.toArray&&(Nat.ble os.length K||JV os.toArray K)&&Sc.ok os.toArray K true s os.length (Array.replicate os.length false))=true) (hQ:DI Q)
 (h : ∀w1,Ext w w1→w1.heap=w.heap→S w1∧TW P n os.toArray Q S K s l w1):CW P n (.region id os.toArray true) Q l w:=by
 unfold CW
 intro a ha
 simp only [Bool.and_eq_true] at hs
 obtain ⟨h1,h2⟩:=h w.drew (Ext.refl w).drew rfl
 have hre : ∀i,i<K→ES os.toArray K i:=by
  by_cases hK:K<os.toArray.size
  · have hl:=hs.1.2
    simp only [Bool.or_eq_true] at hl
    rcases hl with hl|hl
    · have:=Nat.le_of_ble_eq_true hl
      simp at hK;omega
    · exact FI hl hK
  · intro i hi listed j o _ hj ho _
    have hjs:j<os.toArray.size:=(Array.getElem?_eq_some_iff.1 ho).1
    omega
 have hdc:DC os.toArray (Array.replicate os.length false):=fun k o _ hl=>by
  exfalso
  rcases Nat.lt_or_ge k os.length with h'|h'
  · simp [h'] at hl
  · simp [Array.getElem?_eq_none,h'] at hl
 refine wp_region_any hm (JW (S:=S) (K:=K) _ _ _ _ ?_)
 have:=(HT.any hs.1.1 hre hQ s os.length (Array.replicate os.length false) a w.drew hdc h1 (h2 a ha)).1 hs.2
 simpa using this
theorem As:TW P n ops Q S K .none l w:=fun _ _=>trivial
theorem Az {os:List Oper} (he:Lw K ops.toList=some os) (h:LW P n ops Q os l w):TW P n ops Q S K .tail l w:=by
 unfold LW at h
 intro a ha
 show wpList P ops Q (ops.toList.drop K) a w
 rw [Hm he];exact h a ha
theorem TA {op:Op} {v:Value} (hi:ops.toList[i]? = some ⟨some d,op,ty,pos,after,none⟩) (hp:BE P n l S op ty v) (hd:Nat.blt d n=true) (k:TW P n ops Q S K r ((d,v)::l) w) :
 TW P n ops Q S K (.pure i r) l w:=by
 unfold BE at hp
 exact fun a ha=>⟨_,v,hi,Or.inl ⟨rfl,fun w hS=>hp a w _ _ _ _ ha hS⟩,k _ (ha.put hd v)⟩
theorem Bb {op:Op} {v:Value} {j dj:Nat} {want b:Bool} (hi:ops.toList[i]? = some ⟨some d,op,ty,pos,after,some (j,want)⟩) (hj:BX ops j=some dj) (hn:Nat.blt dj n=true) (hb:look l dj=some (.bool b)) (hw:(b==want)=true)
 (hp:BE P n l S op ty v) (hd:Nat.blt d n=true) (k:TW P n ops Q S K r ((d,v)::l) w):TW P n ops Q S K (.pure i r) l w:=by
 unfold BE at hp
 exact fun a ha=>⟨_,v,hi,Or.inl ⟨by rw [FP ha rfl hj hn hb,hw],fun w hS=>hp a w _ _ _ _ ha hS⟩,k _ (ha.put hd v)⟩
theorem BC {op:Op} {j dj:Nat} {want b:Bool} (hi:ops.toList[i]? = some ⟨some d,op,ty,pos,after,some (j,want)⟩) (hj:BX ops j=some dj) (hn:Nat.blt dj n=true) (hb:look l dj=some (.bool b)) (hw:(b==want)=false)
 (hd:Nat.blt d n=true) (k:TW P n ops Q S K r ((d,undef)::l) w):TW P n ops Q S K (.pure i r) l w:=fun a ha=>
 ⟨_,undef,hi,Or.inr ⟨by rw [FP ha rfl hj hn hb,hw],rfl⟩,k _ (ha.put hd undef)⟩
theorem At {op:Op} {K':Option Value→World→Prop} (hi:ops.toList[i]? = some ⟨some d,op,ty,pos,after,none⟩) (hp:Cj P n l op ty w K') (hd:Nat.blt d n=true)
 (k : ∀v w1,K' (some v) w1→S w1∧TW P n ops Q S K x ((d,v)::l) w1) (k0 : ∀w1,¬K' none w1) (kr:TW P n ops Q S K r l w):TW P n ops Q S K (.fork i x r) l w:=fun a ha=>by
 unfold Cj at hp
 refine ⟨?_,kr a ha⟩
 have hi':ops[i]? = some ⟨some d,op,ty,pos,after,none⟩:=by simpa using hi
 unfold wpOp
 rw [hi']
 simp only
 rw [if_pos (Bv rfl)]
 left
 exact hp a _ _ _ _ _ _ ha (fun v w1 hK=>⟨(k v w1 hK).1,(k v w1 hK).2 _ (ha.put hd v)⟩) (fun w1 h=>absurd h (k0 w1))
theorem Fe {op:Op} {K':Option Value→World→Prop} {j dj:Nat} {want b:Bool} (hi:ops.toList[i]? = some ⟨some d,op,ty,pos,after,some (j,want)⟩) (hj:BX ops j=some dj) (hn:Nat.blt dj n=true) (hb:look l dj=some (.bool b)) (hw:(b==want)=true) (hp:Cj P n l op ty w K') (hd:Nat.blt d n=true)
 (k : ∀v w1,K' (some v) w1→S w1∧TW P n ops Q S K x ((d,v)::l) w1) (k0 : ∀w1,¬K' none w1) (kr:TW P n ops Q S K r l w):TW P n ops Q S K (.fork i x r) l w:=fun a ha=>by
 unfold Cj at hp
 refine ⟨?_,kr a ha⟩
 have hi':ops[i]? = some ⟨some d,op,ty,pos,after,some (j,want)⟩:=by simpa using hi
 unfold wpOp
 rw [hi']
 simp only
 rw [if_pos (by rw [FP ha rfl hj hn hb,hw])]
 left
 exact hp a _ _ _ _ _ _ ha (fun v w1 hK=>⟨(k v w1 hK).1,(k v w1 hK).2 _ (ha.put hd v)⟩) (fun w1 h=>absurd h (k0 w1))
theorem RV {op:Op} {K':Option Value→World→Prop} (hi:ops.toList[i]? = some ⟨none,op,ty,pos,after,none⟩) (hp:Cj P n l op ty w K')
 (k : ∀v w1,K' v w1→S w1∧TW P n ops Q S K x l w1) (kr:TW P n ops Q S K r l w):TW P n ops Q S K (.fork i x r) l w:=fun a ha=>by
 unfold Cj at hp
 refine ⟨?_,kr a ha⟩
 have hi':ops[i]? = some ⟨none,op,ty,pos,after,none⟩:=by simpa using hi
 unfold wpOp
 rw [hi']
 simp only
 rw [if_pos (Bv rfl)]
 left
 exact hp a _ _ _ _ _ _ ha (fun v w1 hK=>⟨(k _ w1 hK).1,(k _ w1 hK).2 _ ha⟩) (fun w1 h=>⟨(k _ w1 h).1,(k _ w1 h).2 _ ha⟩)
end draws
theorem AZ {P:Program} {n:Nat} {l:Sl} {w:World} {fn:Func} {R:Ending→World→Prop} {tab:Tab} {t ty sz b:Nat} {s:Sk} {vs:List Value} (h:fn.results = #[.cell t ty]) (T:TabOk P tab) (ht:AL tab ty=some (s,sz)) (hs:s.agg=true) (hv:look l t=some (.pointer (some ⟨b,0,none⟩))) (hb:Blk w b vs) (hl:vs.length=sz)
 (hR:R (.returned (.agg vs.toArray)) w):QW n (bodyPost P fn R) .ret l w:=by
 unfold QW
 intro a ha
 refine ⟨ha.defers,.agg vs.toArray,?_,hR⟩
 have e:(loadVar ty ⟨b,0,none⟩).run P w = .ok (.agg vs.toArray) w:=by
  simp only [Sem.run_bind,Sem.run_pure,Result.andThen,loadVar,Dl (T _ _ _ ht),hs,if_true,Ci (T _ _ _ ht)]
  rw [←hl,CC hb.row]
 have hv':=ha.has t _ hv
 simp only [Array.getD_eq_getD_getElem?] at hv'
 simp [results,h,hv',e,asAddr]
attribute [irreducible] TW
section
variable {P:Program} {n:Nat} {l:Sl} {S:World→Prop} {tab:Tab} {ty:TypeId} {x y:Operand} {t t' sz:Nat}
theorem Bq {f off ft sz2:Nat} {fs:List (Nat×Nat)} {s:Sk} {vs:List Value} {v:Value} (T:TabOk P tab) (ht:AL tab t=some (.struct fs,sz)) (hf:fs[f]? = some (off,ft)) (hft:AL tab ft=some (s,sz2)) (hs:s.agg=false)
 (hx:ev l x=some (.agg vs.toArray)) (hv:vs[off]? = some v):BE P n l S (.field t x f) ty v:=by
 unfold BE
 intro a w dst pos after g ha _
 obtain ⟨gs,h1,-,h2⟩:=(T _ _ _ ht).under
 obtain ⟨fd,h3,h4,h5,-⟩:=h2 f off ft hf
 have e:(Instr.field t (.agg vs.toArray) f).run P w = .ok v w:=by
  simp only [Instr.field,Sem.run_bind,AG h1,Result.andThen,h3,asAgg,Sem.run_pure,part,h5,h4,Dl (T _ _ _ hft),hs]
  simp [hv]
 simp [execOp,ha.ev hx,e]
theorem FQ {i:Operand} {e szE b o len cap:Nat} {k:IntKind} {j:Int} {sE:Sk} {q:Option Addr} (T:TabOk P tab) (ht:AL tab t=some (.slice e,sz)) (hE:AL tab e=some (sE,szE))
 (hx:ev l x=some (.slice q len cap)) (hq:q=some ⟨b,o,none⟩) (hi:ev l i=some (.int k j)) (h0:0≤j) (h1:j<len):BE P n l S (.indexAddr t x i) ty (.pointer (some ⟨b,o+j.toNat*szE,none⟩)):=by
 subst hq;exact A4 T ht hE hx hi h0 h1
theorem JX (T:TabOk P tab) (ht:AL tab t=some (.iface,sz)) (hx:ev l x=some .nilIface):BE P n l S (.binOp .neq t x (.const .nilIface) t') ty (.bool false):=by
 unfold BE
 intro a w dst pos after g ha _
 obtain ⟨ms,hu⟩:=(T _ _ _ ht).under
 have e:(Op.equal t .nilIface .nilIface).run P w = .ok true w:=by
  refine (fun h=>h (Op.maxDepth-1):(∀d,(Op.equalIn (d+1) t .nilIface .nilIface).run P w = .ok true w)→_) (fun d=>?_)
  unfold Op.equalIn
  simp only [Sem.run_bind,AG hu,Result.andThen_ok,Sem.run_pure]
 have e2:(eqGuard .neq t x (.const .nilIface) .nilIface .nilIface).run P w = .ok () w:=by
  unfold eqGuard;simp
 have e3:(binOp .neq t .nilIface .nilIface).run P w = .ok (.bool false) w:=by
  unfold binOp
  simp only [Sem.run_bind,e,Result.andThen_ok,Sem.run_pure,Bool.not_true]
 have hc:a.eval (.const .nilIface) = .nilIface:=rfl
 simp only [execOp,ha.ev hx,hc,Sem.run_bind,e2,e3,Result.andThen_ok,Sem.run_pure]
theorem RW {te:TypeId} {pe:Value} (T:TabOk P tab) (ht:AL tab t=some (.iface,sz)) (hx:ev l x=some (.iface te pe)):BE P n l S (.binOp .neq t x (.const .nilIface) t') ty (.bool true):=by
 unfold BE
 intro a w dst pos after g ha _
 obtain ⟨ms,hu⟩:=(T _ _ _ ht).under
 have e:(Op.equal t (.iface te pe) .nilIface).run P w = .ok false w:=by
  refine (fun h=>h (Op.maxDepth-1):(∀d,(Op.equalIn (d+1) t (.iface te pe) .nilIface).run P w = .ok false w)→_) (fun d=>?_)
  unfold Op.equalIn
  simp only [Sem.run_bind,AG hu,Result.andThen_ok,Sem.run_pure]
 have e2:(eqGuard .neq t x (.const .nilIface) (.iface te pe) .nilIface).run P w = .ok () w:=by
  unfold eqGuard;simp
 have e3:(binOp .neq t (.iface te pe) .nilIface).run P w = .ok (.bool true) w:=by
  unfold binOp
  simp only [Sem.run_bind,e,Result.andThen_ok,Sem.run_pure,Bool.not_false]
 have hc:a.eval (.const .nilIface) = .nilIface:=rfl
 simp only [execOp,ha.ev hx,hc,Sem.run_bind,e2,e3,Result.andThen_ok,Sem.run_pure]
theorem AC {fs:List (Nat×Nat)} {xs:List (Nat×Operand)} {ps:List (Nat×Value)} {qs:List (Nat×Nat×List Value)} {zt:EL} {zs:List Value} (out:List Value) (T:TabOk P tab) (Z:CO P zt)
 (ht:AL tab t=some (.struct fs,sz)) (hz:Dx zt t=some zs) (hp:IZ tab fs l xs=some (ps,qs)) (ho:Ie qs zs=some out):BE P n l S (.build t xs.toArray) ty (.agg out.toArray):=Qm T Z ht hz hp ho
theorem Aw {b o:Nat} {s:Sk} {vs:List Value} (us:List Value) (T:TabOk P tab) (ht:AL tab t=some (s,sz)) (hs:s.agg=true) (hx:ev l x=some (.pointer (some ⟨b,o,none⟩)))
 (hc : ∀w,S w→Blk w b vs) (hl:Nat.ble (o+sz) vs.length=true) (he:(vs.drop o).take sz=us):BE P n l S (.load t x) ty (.agg us.toArray):=by subst he;exact Dm T ht hs hx hc hl
theorem Ef {b o i:Nat} {s:Sk} {vs:List Value} (us:List Value) (T:TabOk P tab) (ht:AL tab t=some (s,sz)) (hs:s.agg=true) (hx:ev l x=some (.pointer (some ⟨b,o+i,none⟩)))
 (hc : ∀w,S w→Row w ⟨b,o,none⟩ vs) (hl:Nat.ble (i+sz) vs.length=true) (he:(vs.drop i).take sz=us):BE P n l S (.load t x) ty (.agg us.toArray):=by subst he;exact G8 T ht hs hx hc hl
theorem Ik {w:World} {fn:Func} {R:Ending→World→Prop} {ct cty b u s:Nat} {sk:Sk} {vs:List Value} {v2 v3:Value} (h:fn.results = #[.cell ct cty,.tmp u,.tmp s]) (T:TabOk P tab) (ht:AL tab cty=some (sk,sz)) (hs:sk.agg=true) (hv:look l ct=some (.pointer (some ⟨b,0,none⟩))) (hb:Blk w b vs) (hl:vs.length=sz)
 (hu:look l u=some v2) (hz:look l s=some v3) (hR:R (.returned (.tuple #[.agg vs.toArray,v2,v3])) w):QW n (bodyPost P fn R) .ret l w:=by
 unfold QW
 intro a ha
 refine ⟨ha.defers,.tuple #[.agg vs.toArray,v2,v3],?_,hR⟩
 have e:(loadVar cty ⟨b,0,none⟩).run P w = .ok (.agg vs.toArray) w:=by
  simp only [Sem.run_bind,Sem.run_pure,Result.andThen,loadVar,Dl (T _ _ _ ht),hs,if_true,Ci (T _ _ _ ht)]
  rw [←hl,CC hb.row]
 have hv':=ha.has ct _ hv
 have hu':=ha.has u _ hu
 have hz':=ha.has s _ hz
 simp only [Array.getD_eq_getD_getElem?] at hv' hu' hz'
 simp [results,h,hv',hu',hz',e,asAddr]
theorem Md {a:Act} (ha:Env n l a) {ops:Array Oper} {j dj:Nat} {want:Bool} {o:Oper} (hg:o.guard=some (j,want)) (hj:BX ops j=some dj) (hn:Nat.blt dj n=true) (hb:look l dj=some undef) :
 Region.wanted o (yielded ops a.tmps)=false:=by
 have h1:=ha.has dj _ hb
 have hn':dj<a.tmps.size:=by rw [ha.size];exact Nat.le_of_ble_eq_true hn
 have h2:a.tmps[dj]? = some undef:=by
  rw [Array.getD_eq_getD_getElem?,Array.getElem?_eq_getElem hn'] at h1
  rw [Array.getElem?_eq_getElem hn']
  simpa using h1
 have h3:(ops[j]?).bind (·.dst)=some dj:=by simpa [BX] using hj
 unfold Region.wanted yielded
 simp only [hg,h3,Option.bind_some,h2]
 cases want<;>rfl
section rules
variable {w:World} {ops:Array Oper} {Q:Exit→Act→World→Prop} {rest:List Oper} {d:Nat} {pos:String} {after:Array Edge}
theorem JJ {v:Value} (vs:List Value) (hx:ev l x=some v) (hv:v.cells=vs.toArray) (hd:Nat.blt d n=true)
 (k : ∀b w1,New w w1 b vs→LW P n ops Q rest ((d,.pointer (some ⟨b,0,none⟩))::l) w1):LW P n ops Q (⟨some d,.box t x,ty,pos,after,none⟩::rest) l w:=IY hx hv hd k
theorem AB {zt:EL} (vs:List Value) (Z:CO P zt) (hz:Dx zt t=some vs) (hd:Nat.blt d n=true)
 (k : ∀b w1,New w w1 b vs→LW P n ops Q rest ((d,.pointer (some ⟨b,0,none⟩))::l) w1):LW P n ops Q (⟨some d,.alloc t,ty,pos,after,none⟩::rest) l w:=EM Z hz hd k
theorem I1 {b o:Nat} {s:Sk} {v:Value} {vs:List Value} (us vs':List Value) (T:TabOk P tab) (ht:AL tab t=some (s,sz)) (hx:ev l x=some (.pointer (some ⟨b,o,none⟩))) (hy:ev l y=some v)
 (hv:v.cells=us.toArray) (hl:us.length=sz) (h1:us.all Value.one=true) (hb:Blk w b vs) (ho:Nat.ble (o+us.length) vs.length=true) (he:Bp vs o us=vs')
 (k : ∀w1,Put w w1 b vs'→LW P n ops Q rest l w1):LW P n ops Q (⟨none,.store t x y,ty,pos,after,none⟩::rest) l w:=by
 subst he;exact Id T ht hx hy hv hl h1 hb ho k
theorem DR {w0:World} {b:Nat} {s:Sk} {v:Value} {vs:List Value} (us:List Value) (T:TabOk P tab) (ht:AL tab t=some (s,sz)) (hx:ev l x=some (.pointer (some ⟨b,0,none⟩))) (hy:ev l y=some v)
 (hv:v.cells=us.toArray) (hl:us.length=sz) (h1:us.all Value.one=true) (hb:New w0 w b vs) (ho:us.length=vs.length)
 (k : ∀w1,New w0 w1 b us→LW P n ops Q rest l w1):LW P n ops Q (⟨none,.store t x y,ty,pos,after,none⟩::rest) l w:=Fy T ht hx hy hv hl h1 hb ho k
theorem AM {e szE len:Nat} {sE:Sk} {zt:EL} {zs:List Value} {ps:List (Nat×Operand)} {vs:List Value} (cs:List Value) (T:TabOk P tab) (Z:CO P zt) (ht:AL tab t=some (.slice e,sz)) (hE:AL tab e=some (sE,szE))
 (hz:Dx zt e=some zs) (hp:GW l 0 ps=some vs) (hl:vs.length=len) (hc:vs.all (fun v=>Nat.beq v.cells.size szE)=true) (hm:Nat.ble (len*szE) 10000=true) (hn0:Nat.blt 0 (len*szE)=true) (he:(vs.map (·.cells.toList)).flatten=cs) :
 Cj P n l (.buildSlice t len ps.toArray) ty w (Pv w len cs e):=by subst he;exact Ou T Z ht hE hz hp hl hc hm hn0
theorem Ae {b o:Nat} {s:Sk} {vs:List Value} (us:List Value) (T:TabOk P tab) (ht:AL tab t=some (s,sz)) (hs:s.agg=true) (hx:ev l x=some (.pointer (some ⟨b,o,none⟩)))
 (hb:Blk w b vs) (hl:Nat.ble (o+sz) vs.length=true) (he:(vs.drop o).take sz=us) (hd:Nat.blt d n=true) (k:LW P n ops Q rest ((d,.agg us.toArray)::l) w):LW P n ops Q (⟨some d,.load t x,ty,pos,after,none⟩::rest) l w:=by
 subst he;exact Ov T ht hs hx hb hl hd k
theorem C7 {b o i:Nat} {s:Sk} {vs:List Value} (us:List Value) (T:TabOk P tab) (ht:AL tab t=some (s,sz)) (hs:s.agg=true) (hx:ev l x=some (.pointer (some ⟨b,o+i,none⟩)))
 (hb:Row w ⟨b,o,none⟩ vs) (hl:Nat.ble (i+sz) vs.length=true) (he:(vs.drop i).take sz=us) (hd:Nat.blt d n=true) (k:LW P n ops Q rest ((d,.agg us.toArray)::l) w):LW P n ops Q (⟨some d,.load t x,ty,pos,after,none⟩::rest) l w:=by
 subst he;exact Ow T ht hs hx hb hl hd k
theorem Eg {K i b o:Nat} {r x':Sc} {s:Sk} {v:Value} {vs:List Value} (us vs':List Value) (hi:ops.toList[i]? = some ⟨none,.store t x y,ty,pos,after,none⟩) (T:TabOk P tab) (ht:AL tab t=some (s,sz)) (hx:ev l x=some (.pointer (some ⟨b,o,none⟩))) (hy:ev l y=some v)
 (hv:v.cells=us.toArray) (hl:us.length=sz) (h1:us.all Value.one=true) (hb:Blk w b vs) (ho:Nat.ble (o+us.length) vs.length=true) (he:Bp vs o us=vs')
 (k : ∀w1,Put w w1 b vs'→S w1∧TW P n ops Q S K x' l w1) (kr:TW P n ops Q S K r l w):TW P n ops Q S K (.fork i x' r) l w:=by
 subst he
 exact RV hi (Ga T ht hx hy hv hl h1 hb ho) (fun v w1 h=>by cases v with|none=>exact k w1 h|some _=>exact h.elim) kr
theorem JY {op:Op} {j dj:Nat} {want:Bool} (hj:BX ops j=some dj) (hn:Nat.blt dj n=true) (hb:look l dj=some undef) (hd:Nat.blt d n=true)
 (k:LW P n ops Q rest ((d,undef)::l) w):LW P n ops Q (⟨some d,op,ty,pos,after,some (j,want)⟩::rest) l w:=by
 unfold LW at k ⊢
 intro a ha
 unfold wpList
 rw [Md ha rfl hj hn hb]
 exact k _ (ha.put hd undef)
end rules
theorem G9 {kt e sz1 sz2 r:Nat} {k:List UInt8} {z v:Value} {kvs:List (List UInt8×Value)} (T:TabOk P tab) (ht:AL tab t=some (.map kt e,sz1)) (hkt:AL tab kt=some (.str,sz2)) (hz:((P.info? e).bind (·.zero))=some z)
 (hx:ev l x=some (.map (some r))) (hy:ev l y=some (str k)) (hm : ∀w,S w→MapIs w r kvs) (hg:Ii kvs k=some v):BE P n l S (.lookup t x y true) ty (.tuple #[v,.bool true]):=by
 have:=JR (P:=P) (n:=n) (ty:=ty) (c:=true) T ht hkt hz hx hy hm
 rw [hg] at this;exact this
theorem Lh {kt e sz1 sz2 r:Nat} {k:List UInt8} {z:Value} {kvs:List (List UInt8×Value)} (T:TabOk P tab) (ht:AL tab t=some (.map kt e,sz1)) (hkt:AL tab kt=some (.str,sz2)) (hz:((P.info? e).bind (·.zero))=some z)
 (hx:ev l x=some (.map (some r))) (hy:ev l y=some (str k)) (hm : ∀w,S w→MapIs w r kvs) (hg:Ii kvs k=none):BE P n l S (.lookup t x y true) ty (.tuple #[z,.bool false]):=by
 have:=JR (P:=P) (n:=n) (ty:=ty) (c:=true) T ht hkt hz hx hy hm
 rw [hg] at this;exact this
theorem TC {a b m:Int} (hx:ev l x=some (.int .i64 a)) (hy:ev l y=some (.int .i64 b)) (hm:max a b=m):BE P n l S (.call ⟨.builtin .max,#[x,y],#[t,t']⟩) ty (.int .i64 m):=by
 unfold BE
 intro c w dst pos after g ha _
 have e:(if b>a then b else a)=m:=by rw [←hm];split<;>omega
 simp [execOp,resolve,invoke,builtin,Builtin.max_,Builtin.max2,ha.ev hx,ha.ev hy,e]
theorem JZ {k:IntKind} {i:Nat} {a:List UInt8} (T:TabOk P tab) (ht:AL tab t=some (.str,sz)) (hx:ev l x=some (str a)) (hy:ev l y=some (.int k (i:Int))) (h1:i≤a.length):BE P n l S (.slice t x (some y) none none) ty (str (a.drop i)):=
 Qq T ht hx hy (by omega) (by omega)
theorem Ox {z:Operand} {k k':IntKind} {i m:Nat} {a:List UInt8} (T:TabOk P tab) (ht:AL tab t=some (.str,sz)) (hx:ev l x=some (str a)) (hy:ev l y=some (.int k (i:Int))) (hz:ev l z=some (.int k' ((i:Int)+(m:Int)))) (h2:i+m≤a.length):BE P n l S (.slice t x (some y) (some z) none) ty (str ((a.drop i).take m)):=by
 have h:=Qr (P:=P) (n:=n) (l:=l) (S:=S) (ty:=ty) T ht hx hy hz (by omega) (by omega) (by omega)
 have e:(a.take ((i:Int)+(m:Int)).toNat).drop (i:Int).toNat=(a.drop i).take m:=by
  rw [show ((i:Int)+(m:Int)).toNat=i+m by omega,show (i:Int).toNat=i by omega,List.drop_take]
  congr 1;omega
 rw [e] at h;exact h
theorem TD {k:IntKind} {a b c:Int} (hx:ev l x=some (.int k a)) (hy:ev l y=some (.int k b)) (hb:b≠0) (hc:k.wrap (a.tdiv b)=c):BE P n l S (.binOp .quo t x y t') ty (.int k c):=by
 unfold BE
 intro d w dst pos after g ha _
 subst hc
 simp [execOp,ha.ev hx,ha.ev hy,Bx,binOp,Op.intDiv,hb]
theorem TE {k:IntKind} {a b c:Int} (hx:ev l x=some (.int k a)) (hy:ev l y=some (.int k b)) (hb:b≠0) (hc:a.tmod b=c):BE P n l S (.binOp .rem t x y t') ty (.int k c):=by
 unfold BE
 intro d w dst pos after g ha _
 subst hc
 simp [execOp,ha.ev hx,ha.ev hy,Bx,binOp,Op.intDiv,hb]
end
section
variable {P:Program} {n d:Nat} {ops:Array Oper} {Q:Exit→Act→World→Prop} {rest:List Oper} {l:Sl} {w:World} {ty:TypeId} {pos:String} {after:Array Edge} {S:World→Prop}
theorem cN {id:Nat} {os:List Oper} {y:Code} (h:LW P n os.toArray (Exit.then (y.wp P Q) Q) os l w):LW P n ops (Exit.then ((Code.seq (.region id os.toArray false) y).wp P Q) Q) [] l w:=Aj (Ai (Am (Ah h)))
theorem cT {y:Code} (h:CW P n y Q l w):LW P n ops (Exit.then (y.wp P Q) Q) [] l w:=Aj (Ai h)
theorem cS {id:Nat} {os:List Oper} {y:Code} (h:LW P n os.toArray (Exit.then (y.wp P Q) Q) os l w):CW P n (.seq (.region id os.toArray false) y) Q l w:=Am (Ah h)
theorem cR {f:FuncId} {xs:List Operand} {tys:Array TypeId} {vs:List Value} {R:Ending→World→Prop} (hb:CV P f=true) (hxs:evs l xs=some vs) (C:Calls P f vs.toArray w R) (hR : ∀e w1,R e w1 → ∃v,e = .returned v) (hd:Nat.blt d n=true)
 (k : ∀v w1,VQ R (some v) w1→LW P n ops Q rest ((d,v)::l) w1):LW P n ops Q (⟨some d,.call ⟨.value (.func f),xs.toArray,tys⟩,ty,pos,after,none⟩::rest) l w:=
 AQ (Av hb hxs C hR) hd k (fun _ h=>h)
theorem cC {f:FuncId} {xs:List Operand} {tys:Array TypeId} {vs:List Value} {v0:Value} {R:World→Prop} (hxs:evs l xs=some vs) (C:Calls P f vs.toArray w (fun e w'=>e = .returned v0∧R w'))
 (k : ∀v w1,VQ (fun e w'=>e = .returned v0∧R w') (some v) w1→LW P n ops Q rest ((d,v)::l) w1) (hb:CV P f=true:=by kernel_rfl) (hd:Nat.blt d n=true:=by exact rfl):LW P n ops Q (⟨some d,.call ⟨.value (.func f),xs.toArray,tys⟩,ty,pos,after,none⟩::rest) l w:=
 AQ (Av hb hxs C (fun _ _ h=>⟨_,h.1⟩)) hd k (fun _ h=>h)
theorem Mv {x:Operand} {v:Value} (h:ev l x=some v:=by exact rfl):BE P n l S (.move x) ty v:=Ap h
theorem Pa {x:Operand} {v:Value} (h:ev l x=some v:=by exact rfl):BE P n l S (.assign x) ty v:=AA h
theorem Pn {x:Operand} {a:Addr} (hx:ev l x=some (.pointer (some a)):=by exact rfl):BE P n l S (.nilCheck x) ty (.pointer (some a)):=A6 hx
theorem Pf {x:Operand} {s f b o off ft sz:Nat} {fs:List (Nat×Nat)} (hx:ev l x=some (.pointer (some ⟨b,o,none⟩)):=by exact rfl) (ht:AL tab s=some (.struct fs,sz):=by exact rfl) (hf:fs[f]? = some (off,ft):=by exact rfl) :
 BE prog n l S (.fieldAddr s x f) ty (.pointer (some ⟨b,o+off,none⟩)):=Aq Aa hx ht hf
theorem Pg {x:Operand} {s f b o ft sz:Nat} {fs:List (Nat×Nat)} (hx:ev l x=some (.pointer (some ⟨b,o,none⟩)):=by exact rfl) (ht:AL tab s=some (.struct fs,sz):=by exact rfl) (hf:fs[f]? = some (0,ft):=by exact rfl) :
 BE prog n l S (.fieldAddr s x f) ty (.pointer (some ⟨b,o,none⟩)):=AR Aa hx ht hf
theorem Pi {x i:Operand} {t e sz szE b o len cap:Nat} {k:IntKind} {j:Int} {sE:Sk} (ht:AL tab t=some (.slice e,sz):=by exact rfl) (hE:AL tab e=some (sE,szE):=by exact rfl)
 (hx:ev l x=some (.slice (some ⟨b,o,none⟩) len cap):=by exact rfl) (hi:ev l i=some (.int k j):=by exact rfl) (h0:0≤j:=by omega) (h1:j<len:=by omega):BE prog n l S (.indexAddr t x i) ty (.pointer (some ⟨b,o+j.toNat*szE,none⟩)):=A4 Aa ht hE hx hi h0 h1
theorem Pz {x:Operand} {t e sz:Nat} {p:Option Addr} {len cap:Nat} (ht:AL tab t=some (.slice e,sz):=by exact rfl) (hx:ev l x=some (.slice p len cap):=by exact rfl):BE prog n l S (.call ⟨.builtin .len,#[x],#[t]⟩) ty (.int .i64 len):=AS Aa ht hx
theorem Py {x:Operand} {t sz:Nat} {a:List UInt8} (ht:AL tab t=some (.str,sz):=by exact rfl) (hx:ev l x=some (str a):=by exact rfl):BE prog n l S (.call ⟨.builtin .len,#[x],#[t]⟩) ty (.int .i64 a.length):=Es Aa ht hx
theorem Px {x:Operand} {i:Nat} {v:Value} {vs:List Value} (hx:ev l x=some (.tuple vs.toArray):=by exact rfl) (hi:vs[i]? = some v:=by exact rfl):BE P n l S (.extract x i) ty v:=MS hx hi
theorem Pt {x:Operand} {q:Bool} {t:TypeId} (hx:ev l x=some (.bool q):=by exact rfl):BE P n l S (.unOp .not t x) ty (.bool !q):=Cm hx
section
variable {x y:Operand} {k:IntKind} {a b:Int} {t t':TypeId}
theorem V1 (hx:ev l x=some (.int k a):=by exact rfl) (hy:ev l y=some (.int k b):=by exact rfl):BE P n l S (.binOp .eql t x y t') ty (.bool (decide (a=b))):=B4 hx hy
theorem V2 (hx:ev l x=some (.int k a):=by exact rfl) (hy:ev l y=some (.int k b):=by exact rfl):BE P n l S (.binOp .neq t x y t') ty (.bool (decide (a≠b))):=Ic hx hy
theorem V3 (hx:ev l x=some (.int k a):=by exact rfl) (hy:ev l y=some (.int k b):=by exact rfl):BE P n l S (.binOp .lss t x y t') ty (.bool (decide (a<b))):=CU hx hy
theorem V4 (hx:ev l x=some (.int k a):=by exact rfl) (hy:ev l y=some (.int k b):=by exact rfl):BE P n l S (.binOp .leq t x y t') ty (.bool (decide (a≤b))):=Tx hx hy
theorem V5 (hx:ev l x=some (.int k a):=by exact rfl) (hy:ev l y=some (.int k b):=by exact rfl):BE P n l S (.binOp .gtr t x y t') ty (.bool (decide (b<a))):=B5 hx hy
theorem V6 (hx:ev l x=some (.int k a):=by exact rfl) (hy:ev l y=some (.int k b):=by exact rfl):BE P n l S (.binOp .geq t x y t') ty (.bool (decide (b≤a))):=Ty hx hy
theorem V7 (hx:ev l x=some (.int .i64 a):=by exact rfl) (hy:ev l y=some (.int .i64 b):=by exact rfl) (h : -9223372036854775808≤a+b∧a+b≤9223372036854775807:=by omega):BE P n l S (.binOp .add t x y t') ty (.int .i64 (a+b)):=Ed hx hy (IntWalk.i64_in _ h)
end
section
variable {x y:Operand} {a b:List UInt8} {t t':TypeId}
theorem V8 (hx:ev l x=some (str a):=by exact rfl) (hy:ev l y=some (str b):=by exact rfl):BE P n l S (.binOp .eql t x y t') ty (.bool (decide (a=b))):=RQ hx hy
theorem V9 (hx:ev l x=some (str a):=by exact rfl) (hy:ev l y=some (str b):=by exact rfl):BE P n l S (.binOp .neq t x y t') ty (.bool (decide (a≠b))):=RR hx hy
end
section
variable {c x y:Operand} {p:Prop} [Decidable p] {u:Value}
theorem Qy (hp:p) (hc:ev l c=some (.bool (decide p)):=by exact rfl) (hx:ev l x=some u:=by exact rfl):BE P n l S (.pick c x y) ty u:=BO hc hx hp
theorem Qn (hp : ¬p) (hc:ev l c=some (.bool (decide p)):=by exact rfl) (hy:ev l y=some u:=by exact rfl):BE P n l S (.pick c x y) ty u:=Bo hc hy hp
theorem WA (hc:ev l c=some (.bool (decide p)):=by exact rfl) (hx:ev l x=some u:=by exact rfl) (hp:p:=by assumption):BE P n l S (.pick c x y) ty u:=BO hc hx hp
theorem WO (hc:ev l c=some (.bool (decide p)):=by exact rfl) (hy:ev l y=some u:=by exact rfl) (hp : ¬p:=by assumption):BE P n l S (.pick c x y) ty u:=Bo hc hy hp
theorem WP (hc:ev l c=some (.bool (decide p)):=by exact rfl) (hx:ev l x=some u:=by exact rfl) (hp:p:=by decide):BE P n l S (.pick c x y) ty u:=BO hc hx hp
theorem WQ (hc:ev l c=some (.bool (decide p)):=by exact rfl) (hy:ev l y=some u:=by exact rfl) (hp : ¬p:=by decide):BE P n l S (.pick c x y) ty u:=Bo hc hy hp
theorem VR (hc:ev l c=some (.bool (decide p)):=by exact rfl) (hx:ev l x=some u:=by exact rfl) (hp:p:=by omega):BE P n l S (.pick c x y) ty u:=BO hc hx hp
theorem TF (hc:ev l c=some (.bool (decide p)):=by exact rfl) (hy:ev l y=some u:=by exact rfl) (hp : ¬p:=by omega):BE P n l S (.pick c x y) ty u:=Bo hc hy hp
end
theorem Pl {x:Operand} {t sz b o:Nat} {s:Sk} {vs:List Value} {v:Value} (hb:Blk w b vs) (ht:AL tab t=some (s,sz):=by exact rfl) (hs:s.agg=false:=by exact rfl) (hx:ev l x=some (.pointer (some ⟨b,o,none⟩)):=by exact rfl)
 (hv:vs[o]? = some v:=by exact rfl):BE prog n l (fun x=>x=w) (.load t x) ty v:=Al Aa ht hs hx (fun wz hz=>by subst hz;exact hb.cell hv)
theorem Pw {x:Operand} {t sz b o i:Nat} {s:Sk} {vs:List Value} {v:Value} (hb:Row w ⟨b,o,none⟩ vs) (ht:AL tab t=some (s,sz):=by exact rfl) (hs:s.agg=false:=by exact rfl) (hx:ev l x=some (.pointer (some ⟨b,o+i,none⟩)):=by exact rfl)
 (hv:vs[i]? = some v:=by exact rfl):BE prog n l (fun x=>x=w) (.load t x) ty v:=Al Aa ht hs hx (fun wz hz=>by subst hz;exact hb.at hv)
theorem G6 {x:Operand} {t sz b o:Nat} {s:Sk} {vs:List Value} {v:Value} (hb:Row w ⟨b,o,none⟩ vs) (ht:AL tab t=some (s,sz):=by exact rfl) (hs:s.agg=false:=by exact rfl) (hx:ev l x=some (.pointer (some ⟨b,o,none⟩)):=by exact rfl)
 (hv:vs[0]? = some v:=by exact rfl):BE prog n l (fun x=>x=w) (.load t x) ty v:=Al Aa ht hs hx (fun wz hz=>by subst hz;exact hb.at0 hv)
theorem Gb {x:Operand} {t sz b o:Nat} {s:Sk} {vs:List Value} (hb:Row w ⟨b,o,none⟩ vs) (ht:AL tab t=some (s,sz):=by exact rfl) (hs:s.agg=true:=by exact rfl) (hx:ev l x=some (.pointer (some ⟨b,o,none⟩)):=by exact rfl)
 (hl:vs.length=sz:=by exact rfl):BE prog n l (fun x=>x=w) (.load t x) ty (.agg vs.toArray):=BF Aa ht hs hx (fun wz hz=>by subst hz;exact hb) hl
section
variable {x:Operand} {t sz b o i:Nat} {s:Sk} {vs:List Value} {v:Value} {w0:World}
theorem Db (hb:Blk w0 b vs) (ht:AL tab t=some (s,sz):=by exact rfl) (hs:s.agg=false:=by exact rfl) (hx:ev l x=some (.pointer (some ⟨b,o,none⟩)):=by exact rfl) (hv:vs[o]? = some v:=by exact rfl) :
 BE prog n l (fun wz=>Ext w0 wz) (.load t x) ty v:=Al Aa ht hs hx (fun wz hz=>Blk.cell (Blk.ext hb hz) hv)
theorem Dr (hb:Row w0 ⟨b,o,none⟩ vs) (ht:AL tab t=some (s,sz):=by exact rfl) (hs:s.agg=false:=by exact rfl) (hx:ev l x=some (.pointer (some ⟨b,o+i,none⟩)):=by exact rfl) (hv:vs[i]? = some v:=by exact rfl) :
 BE prog n l (fun wz=>Ext w0 wz) (.load t x) ty v:=Al Aa ht hs hx (fun wz hz=>Row.at (Row.ext hb hz) hv)
end
theorem C1 {op:Op} {v:Value} (hp:BE P n l (fun x=>x=w) op ty v) (k:LW P n ops Q rest ((d,v)::l) w) (hd:Nat.blt d n=true:=by exact rfl):LW P n ops Q (⟨some d,op,ty,pos,after,none⟩::rest) l w:=Ab hp hd k
theorem cM {x:Operand} {v:Value} (h:ev l x=some v) (k:LW P n ops Q rest ((d,v)::l) w) (hd:Nat.blt d n=true:=by exact rfl):LW P n ops Q (⟨some d,.move x,ty,pos,after,none⟩::rest) l w:=Ab (Ap h) hd k
theorem cA {x:Operand} {v:Value} (h:ev l x=some v) (k:LW P n ops Q rest ((d,v)::l) w) (hd:Nat.blt d n=true:=by exact rfl):LW P n ops Q (⟨some d,.assign x,ty,pos,after,none⟩::rest) l w:=Ab (AA h) hd k
theorem Tq {K i:Nat} {r:Sc} {op:Op} {v:Value} (hi:ops.toList[i]? = some ⟨some d,op,ty,pos,after,none⟩) (hp:BE P n l S op ty v) (k:TW P n ops Q S K r ((d,v)::l) w) (hd:Nat.blt d n=true:=by exact rfl):TW P n ops Q S K (.pure i r) l w:=TA hi hp hd k
section
variable {c:Operand} {x y:Code} {p:Prop} [Decidable p]
theorem WB (h:CW P n y Q l w) (hc:ev l c=some (.bool (decide p)):=by exact rfl) (hp : ¬p:=by assumption):CW P n (.cond c x y) Q l w:=Cb hc hp h
theorem Wv (h:CW P n x Q l w) (hc:ev l c=some (.bool (decide p)):=by exact rfl) (hp:p:=by assumption):CW P n (.cond c x y) Q l w:=Cs hc hp h
theorem U7 (h:CW P n y Q l w) (hc:ev l c=some (.bool (decide p)):=by exact rfl) (hp : ¬p:=by decide):CW P n (.cond c x y) Q l w:=Cb hc hp h
theorem WU (h:CW P n x Q l w) (hc:ev l c=some (.bool (decide p)):=by exact rfl) (hp:p:=by decide):CW P n (.cond c x y) Q l w:=Cs hc hp h
theorem Hn (h:CW P n y Q l w) (hc:ev l c=some (.bool (decide p)):=by exact rfl) (hp : ¬p:=by omega):CW P n (.cond c x y) Q l w:=Cb hc hp h
theorem WC (h:CW P n x Q l w) (hc:ev l c=some (.bool (decide p)):=by exact rfl) (hp:p:=by omega):CW P n (.cond c x y) Q l w:=Cs hc hp h
end
section
variable {op:Op} {j dj:Nat} {p:Prop} [Decidable p]
theorem Ww (k:LW P n ops Q (⟨some d,op,ty,pos,after,none⟩::rest) l w) (hj:BX ops j=some dj:=by exact rfl) (hn:Nat.blt dj n=true:=by exact rfl) (hb:look l dj=some (.bool (decide p)):=by exact rfl) (hp:p:=by assumption):LW P n ops Q (⟨some d,op,ty,pos,after,some (j,true)⟩::rest) l w:=BR hj hn hb (B0 hp) k
theorem WD (k:LW P n ops Q (⟨some d,op,ty,pos,after,none⟩::rest) l w) (hj:BX ops j=some dj:=by exact rfl) (hn:Nat.blt dj n=true:=by exact rfl) (hb:look l dj=some (.bool (decide p)):=by exact rfl) (hp:p:=by decide):LW P n ops Q (⟨some d,op,ty,pos,after,some (j,true)⟩::rest) l w:=BR hj hn hb (B0 hp) k
theorem RM (k:LW P n ops Q (⟨some d,op,ty,pos,after,none⟩::rest) l w) (hj:BX ops j=some dj:=by exact rfl) (hn:Nat.blt dj n=true:=by exact rfl) (hb:look l dj=some (.bool (decide p)):=by exact rfl) (hp:p:=by omega):LW P n ops Q (⟨some d,op,ty,pos,after,some (j,true)⟩::rest) l w:=BR hj hn hb (B0 hp) k
theorem RN (k:LW P n ops Q (⟨some d,op,ty,pos,after,none⟩::rest) l w) (hj:BX ops j=some dj:=by exact rfl) (hn:Nat.blt dj n=true:=by exact rfl) (hb:look l dj=some (.bool (decide p)):=by exact rfl) (hp : ¬p:=by assumption):LW P n ops Q (⟨some d,op,ty,pos,after,some (j,false)⟩::rest) l w:=BR hj hn hb (BB hp) k
theorem Wx (k:LW P n ops Q (⟨some d,op,ty,pos,after,none⟩::rest) l w) (hj:BX ops j=some dj:=by exact rfl) (hn:Nat.blt dj n=true:=by exact rfl) (hb:look l dj=some (.bool (decide p)):=by exact rfl) (hp : ¬p:=by decide):LW P n ops Q (⟨some d,op,ty,pos,after,some (j,false)⟩::rest) l w:=BR hj hn hb (BB hp) k
theorem JD (k:LW P n ops Q (⟨some d,op,ty,pos,after,none⟩::rest) l w) (hj:BX ops j=some dj:=by exact rfl) (hn:Nat.blt dj n=true:=by exact rfl) (hb:look l dj=some (.bool (decide p)):=by exact rfl) (hp : ¬p:=by omega):LW P n ops Q (⟨some d,op,ty,pos,after,some (j,false)⟩::rest) l w:=BR hj hn hb (BB hp) k
theorem PE (k:LW P n ops Q rest ((d,undef)::l) w) (hj:BX ops j=some dj:=by exact rfl) (hn:Nat.blt dj n=true:=by exact rfl) (hb:look l dj=some (.bool (decide p)):=by exact rfl) (hp:p:=by assumption) (hd:Nat.blt d n=true:=by exact rfl):LW P n ops Q (⟨some d,op,ty,pos,after,some (j,false)⟩::rest) l w:=By hj hn hb (Cw hp) hd k
theorem WV (k:LW P n ops Q rest ((d,undef)::l) w) (hj:BX ops j=some dj:=by exact rfl) (hn:Nat.blt dj n=true:=by exact rfl) (hb:look l dj=some (.bool (decide p)):=by exact rfl) (hp:p:=by decide) (hd:Nat.blt d n=true:=by exact rfl):LW P n ops Q (⟨some d,op,ty,pos,after,some (j,false)⟩::rest) l w:=By hj hn hb (Cw hp) hd k
theorem WW (k:LW P n ops Q rest ((d,undef)::l) w) (hj:BX ops j=some dj:=by exact rfl) (hn:Nat.blt dj n=true:=by exact rfl) (hb:look l dj=some (.bool (decide p)):=by exact rfl) (hp:p:=by omega) (hd:Nat.blt d n=true:=by exact rfl):LW P n ops Q (⟨some d,op,ty,pos,after,some (j,false)⟩::rest) l w:=By hj hn hb (Cw hp) hd k
theorem WX (k:LW P n ops Q rest ((d,undef)::l) w) (hj:BX ops j=some dj:=by exact rfl) (hn:Nat.blt dj n=true:=by exact rfl) (hb:look l dj=some (.bool (decide p)):=by exact rfl) (hp : ¬p:=by assumption) (hd:Nat.blt d n=true:=by exact rfl):LW P n ops Q (⟨some d,op,ty,pos,after,some (j,true)⟩::rest) l w:=By hj hn hb (Gw hp) hd k
theorem WY (k:LW P n ops Q rest ((d,undef)::l) w) (hj:BX ops j=some dj:=by exact rfl) (hn:Nat.blt dj n=true:=by exact rfl) (hb:look l dj=some (.bool (decide p)):=by exact rfl) (hp : ¬p:=by decide) (hd:Nat.blt d n=true:=by exact rfl):LW P n ops Q (⟨some d,op,ty,pos,after,some (j,true)⟩::rest) l w:=By hj hn hb (Gw hp) hd k
theorem Wy (k:LW P n ops Q rest ((d,undef)::l) w) (hj:BX ops j=some dj:=by exact rfl) (hn:Nat.blt dj n=true:=by exact rfl) (hb:look l dj=some (.bool (decide p)):=by exact rfl) (hp : ¬p:=by omega) (hd:Nat.blt d n=true:=by exact rfl):LW P n ops Q (⟨some d,op,ty,pos,after,some (j,true)⟩::rest) l w:=By hj hn hb (Gw hp) hd k
end
end
class LfE (w w':World) (p:Prop) (q:outParam Prop):Prop where
 up:Ext w w'→p→q
class LfF (S:Nat→Prop) (w w':World) (p:Prop) (s q:outParam Prop):Prop where
 up:Fr S w w'→s→p→q
class ChE (w w':World) (g:Prop) (g':outParam Prop):Prop where
 up:Ext w w'→g'→g
class ChF (S:Nat→Prop) (w w':World) (g:Prop) (s g':outParam Prop):Prop where
 up:Fr S w w'→s→g'→g
instance (priority:=low) chE0 {w w':World} {g:Prop}:ChE w w' g g:=⟨fun _ h=>h⟩
instance (priority:=low) chF0 {S:Nat→Prop} {w w':World} {g:Prop}:ChF S w w' g True g:=⟨fun _ _ h=>h⟩
instance chE1 {w w':World} {p q g g':Prop} [LfE w w' p q] [ChE w w' g g']:ChE w w' (p→g) (q→g'):=⟨fun x h a=>ChE.up x (h (LfE.up x a))⟩
instance chF1 {S:Nat→Prop} {w w':World} {p s q g r g':Prop} [LfF S w w' p s q] [ChF S w w' g r g']:ChF S w w' (p→g) (s∧r) (q→g'):=⟨fun x s h a=>ChF.up x s.2 (h (LfF.up x s.1 a))⟩
theorem eE {w w':World} {g g':Prop} (x:Ext w w') (k:g') [ChE w w' g g']:g:=ChE.up x k
theorem eF {S:Nat→Prop} {w w':World} {g s g':Prop} (x:Fr S w w') (k:g') [ChF S w w' g s g'] (h:s:=by (repeat' apply And.intro)<;>first|exact trivial|omega|(simp only;omega)|exact fun k hk=>Or.inl hk|exact fun b hb h=>h (Or.inl hb)|exact fun k hk=>Or.inl (fun h=>hk (Or.inl h))|exact fun h=>h (Or.inr ⟨by omega,by omega⟩)|exact fun h=>h (Or.inl (Or.inr ⟨by omega,by omega⟩))):g:=ChF.up x h k
section
variable {P:Program} {n d:Nat} {ops:Array Oper} {Q:Exit→Act→World→Prop} {rest:List Oper} {l:Sl} {w:World} {ty:TypeId} {pos:String} {after:Array Edge}
theorem eB {x:Operand} {t:Nat} {v:Value} (vs:List Value) (k : ∀b w1,Blk w1 b vs→Ext w w1→b=w.heap.size→w1.heap.size=b+1→LW P n ops Q rest ((d,.pointer (some ⟨b,0,none⟩))::l) w1) (hx:ev l x=some v:=by exact rfl) (hv:v.cells=vs.toArray:=by exact rfl) (hd:Nat.blt d n=true:=by exact rfl) :
 LW P n ops Q (⟨some d,.box t x,ty,pos,after,none⟩::rest) l w:=JJ vs hx hv hd fun b w1 h=>k b w1 h.blk h.ext h.pos h.size
theorem eA {t:Nat} (vs:List Value) (k : ∀b w1,Blk w1 b vs→Ext w w1→b=w.heap.size→w1.heap.size=b+1→LW prog n ops Q rest ((d,.pointer (some ⟨b,0,none⟩))::l) w1) (hz:Dx zt t=some vs:=by exact rfl) (hd:Nat.blt d n=true:=by exact rfl) :
 LW prog n ops Q (⟨some d,.alloc t,ty,pos,after,none⟩::rest) l w:=AB vs Bj hz hd fun b w1 h=>k b w1 h.blk h.ext h.pos h.size
theorem eI {w0:World} {x y:Operand} {t sz b:Nat} {s:Sk} {v:Value} {vs:List Value} (us:List Value) (hb:New w0 w b vs) (k : ∀w1,Blk w1 b us→Ext w0 w1→b=w0.heap.size→w1.heap.size=b+1→LW prog n ops Q rest l w1) (ht:AL tab t=some (s,sz):=by exact rfl)
 (hx:ev l x=some (.pointer (some ⟨b,0,none⟩)):=by exact rfl) (hy:ev l y=some v:=by exact rfl) (hv:v.cells=us.toArray:=by exact rfl) (hl:us.length=sz:=by exact rfl) (h1:us.all Value.one=true:=by exact rfl) (ho:us.length=vs.length:=by exact rfl) :
 LW prog n ops Q (⟨none,.store t x y,ty,pos,after,none⟩::rest) l w:=DR us Aa ht hx hy hv hl h1 hb ho fun w1 h=>k w1 h.blk h.ext h.pos h.size
theorem eV {x y:Operand} {t sz b o:Nat} {s:Sk} {v:Value} {vs:List Value} (us vs':List Value) (hb:Blk w b vs) (k : ∀w1,Blk w1 b vs'→Fr (· = b) w w1→w1.heap.size=w.heap.size→LW prog n ops Q rest l w1) (ht:AL tab t=some (s,sz):=by exact rfl)
 (hx:ev l x=some (.pointer (some ⟨b,o,none⟩)):=by exact rfl) (hy:ev l y=some v:=by exact rfl) (hv:v.cells=us.toArray:=by exact rfl) (hl:us.length=sz:=by exact rfl) (h1:us.all Value.one=true:=by exact rfl) (ho:Nat.ble (o+us.length) vs.length=true:=by exact rfl) (he:Bp vs o us=vs':=by exact rfl) :
 LW prog n ops Q (⟨none,.store t x y,ty,pos,after,none⟩::rest) l w:=I1 us vs' Aa ht hx hy hv hl h1 hb ho he fun w1 h=>k w1 h.blk h.fr h.size
theorem eS {x y:Operand} {t sz b o:Nat} {s:Sk} {v:Value} {vs:List Value} (us:List Value) (hb:Blk w b vs) (k : ∀w1,Blk w1 b us→Fr (· = b) w w1→w1.heap.size=w.heap.size→LW prog n ops Q rest l w1) (ht:AL tab t=some (s,sz):=by exact rfl)
 (hx:ev l x=some (.pointer (some ⟨b,o,none⟩)):=by exact rfl) (hy:ev l y=some v:=by exact rfl) (hv:v.cells=us.toArray:=by exact rfl) (hl:us.length=sz:=by exact rfl) (h1:us.all Value.one=true:=by exact rfl) (ho:Nat.ble (o+us.length) vs.length=true:=by exact rfl) (he:Bp vs o us=us:=by exact rfl) :
 LW prog n ops Q (⟨none,.store t x y,ty,pos,after,none⟩::rest) l w:=I1 us us Aa ht hx hy hv hl h1 hb ho he fun w1 h=>k w1 h.blk h.fr h.size
theorem eQ {f:FuncId} {xs:List Operand} {tys:Array TypeId} {vs:List Value} {R:Ending→World→Prop} (hxs:evs l xs=some vs) (C:Calls P f vs.toArray w R) (k : ∀v w1,VQ R (some v) w1→LW P n ops Q rest ((d,v)::l) w1) (hb:CV P f=true:=by kernel_rfl) (hR : ∀e w1,R e w1 → ∃v,e = .returned v:=by exact fun _ _ h=>h.ret) (hd:Nat.blt d n=true:=by exact rfl) :
 LW P n ops Q (⟨some d,.call ⟨.value (.func f),xs.toArray,tys⟩,ty,pos,after,none⟩::rest) l w:=cR hb hxs C hR hd k
theorem WZ {x:Operand} {t sz b o:Nat} {s:Sk} {vs:List Value} {v:Value} (ht:AL tab t=some (s,sz):=by exact rfl) (hs:s.agg=false:=by exact rfl) (hx:ev l x=some (.pointer (some ⟨b,o,none⟩)):=by exact rfl) (hb:Blk w b vs:=by assumption)
 (hv:vs[o]? = some v:=by exact rfl):BE prog n l (fun x=>x=w) (.load t x) ty v:=Pl hb ht hs hx hv
end
theorem eY {w w':World} {g g':Prop} (x:Ext w w') (k:w.heap.size≤w'.heap.size→g') [ChE w w' g g']:g:=ChE.up x (k x.size)
theorem eZ {S:Nat→Prop} {w w':World} {g s g':Prop} (x:Fr S w w') (k:w.heap.size≤w'.heap.size→g') [ChF S w w' g s g'] (h:s:=by (repeat' apply And.intro)<;>first|exact trivial|omega|(simp only;omega)|exact fun k hk=>Or.inl hk|exact fun b hb h=>h (Or.inl hb)|exact fun k hk=>Or.inl (fun h=>hk (Or.inl h))|exact fun h=>h (Or.inr ⟨by omega,by omega⟩)|exact fun h=>h (Or.inl (Or.inr ⟨by omega,by omega⟩))):g:=ChF.up x h (k x.size)
theorem sB {m l:Sl} (h:Qh m l:=by repeat (first|exact Dq|refine Be rfl ?_)):Qh m l:=h
structure Hd (p:Prop):Prop where
 out:p
instance {S:Nat→Prop} {w w':World} {l:List Nd} {a:Option Addr}:LfE w w' (rowSits S w l a) (rowSits S w' l a):=⟨fun x h=>Bk.rowSits.ext h x⟩
instance {S:Nat→Prop} {w w':World} {t:Nd} {a:Option Addr}:LfE w w' (t.sits S w a) (t.sits S w' a):=⟨fun x h=>Bk.Nd.sits.ext h x⟩
instance {S T:Nat→Prop} {w w':World} {l:List Nd} {a:Option Addr}:LfF T w w' (rowSits S w l a) (∀b,S b → ¬T b) (rowSits S w' l a):=⟨fun x s h=>Bk.rowSits.fr h x s⟩
instance {S T:Nat→Prop} {w w':World} {t:Nd} {a:Option Addr}:LfF T w w' (t.sits S w a) (∀b,S b → ¬T b) (t.sits S w' a):=⟨fun x s h=>Bk.Nd.sits.fr h x s⟩
instance {w w':World} {b:Nat} {vs:List Value}:LfE w w' (Blk w b vs) (Blk w' b vs):=⟨fun x h=>Bk.Blk.ext h x⟩
instance {S:Nat→Prop} {w w':World} {b:Nat} {vs:List Value}:LfF S w w' (Blk w b vs) (¬S b) (Blk w' b vs):=⟨fun x s h=>Bk.Blk.fr h x s⟩
instance {w w':World} {p:Addr} {vs:List Value}:LfE w w' (Row w p vs) (Row w' p vs):=⟨fun x h=>Bk.Row.ext h x⟩
instance {S:Nat→Prop} {w w':World} {p:Addr} {vs:List Value}:LfF S w w' (Row w p vs) (¬S p.block) (Row w' p vs):=⟨fun x s h=>Bk.Row.fr h x s⟩
instance {w w':World} {b:Nat} {vs:List Value} {T:TypeId}:LfE w w' (TB w b vs T) (TB w' b vs T):=⟨fun x h=>Bk.TB.ext h x⟩
instance {w w':World} {b e sz n:Nat} {v:Value} {cs:List Value}:LfE w w' (Own w b e sz v n cs) (Own w' b e sz v n cs):=⟨fun x h=>Bk.Own.ext h x⟩
instance {S:Nat→Prop} {w w':World} {b e sz n:Nat} {v:Value} {cs:List Value}:LfF S w w' (Own w b e sz v n cs) (∀k,v.ownBlock=some k → ¬S k) (Own w' b e sz v n cs):=⟨fun x s h=>Bk.Own.fr h x s⟩
instance {w w':World} {r:Nat} {kvs:List (List UInt8×Value)}:LfE w w' (MapIs w r kvs) (MapIs w' r kvs):=⟨fun x h=>Bk.MapIs.ext h x⟩
instance {S:Nat→Prop} {w w':World} {r:Nat} {kvs:List (List UInt8×Value)}:LfF S w w' (MapIs w r kvs) (¬S r) (MapIs w' r kvs):=⟨fun x s h=>Bk.MapIs.fr h x s⟩
instance {a b c:World}:LfE b c (Ext a b) (Ext a c):=⟨fun x h=>Bk.Ext.ext h x⟩
instance {S:Nat→Prop} {a b c:World}:LfE b c (Fr S a b) (Fr S a c):=⟨fun x h=>Bk.Fr.ext h x⟩
instance {S:Nat→Prop} {a b c:World}:LfF S b c (Ext a b) (∀k,S k→a.heap.size≤k) (Ext a c):=⟨fun x s h=>Bk.Ext.fr h x s⟩
instance {S T:Nat→Prop} {a b c:World}:LfF S b c (Fr T a b) (∀k,S k→T k∨a.heap.size≤k) (Fr T a c):=⟨fun x s h=>Bk.Fr.fr h x s⟩
instance {S:Nat→Prop} {w w':World} {b:Nat} {vs:List Value} {T:TypeId}:LfF S w w' (TB w b vs T) (¬S b) (TB w' b vs T):=⟨fun x s h=>Bk.TB.fr h x s⟩
theorem eK {A B:Prop} (a:A) (h:Hd A→B:=by
 intro a
 repeat (first
  | refine cS ?_|refine cN ?_|refine cT ?_|refine C1 Mv ?_|refine C1 Pa ?_|refine C1 WZ ?_|refine C1 Pg ?_|refine C1 Pf ?_|refine C1 V1 ?_|refine C1 V8 ?_|refine C1 V2 ?_|refine C1 V3 ?_|refine C1 Pz ?_|refine C1 Py ?_|refine C1 Pn ?_|refine C1 Px ?_|refine C1 Pt ?_|refine C1 Pi ?_|refine C1 V7 ?_|refine C1 V4 ?_|refine C1 V5 ?_|refine C1 V6 ?_|refine C1 V9 ?_
  | refine Am ?_|refine AK ?_|refine AH ?_|refine Ai ?_|refine AI ?_|refine Bc ?_|refine A5 ?_|refine Bw ?_|refine Ds ?_|refine B6 ?_|refine An ?_|refine Ah ?_|refine Aj ?_
  | refine WB ?_|refine Wv ?_|refine IW rfl ?_|refine Ep rfl ?_|refine U7 ?_|refine WU ?_|refine Hn ?_|refine WC ?_
  | refine Ww ?_|refine RN ?_|refine PE ?_|refine WX ?_|refine BR rfl rfl rfl (rfl) ?_|refine By rfl rfl rfl (rfl) rfl ?_|refine WD ?_|refine Wx ?_|refine WV ?_|refine WY ?_|refine RM ?_|refine JD ?_|refine WW ?_|refine Wy ?_
  | refine C1 WA ?_|refine C1 WO ?_|refine C1 WP ?_|refine C1 WQ ?_|refine C1 VR ?_|refine C1 TF ?_)
 exact a.out):B:=h ⟨a⟩
def Qs (A:Ending→World→Prop) (B:List PanicEntry→World→Prop):Ending→World→Prop:=fun e w=>A e w ∨ ∃c,e = .panicked c∧B c w
section
variable {P:Program} {n:Nat} {l:Sl} {w:World} {ty:TypeId} {Q:Exit→Act→World→Prop} {ops:Array Oper} {rest:List Oper} {pos:String} {after:Array Edge} {A:Ending→World→Prop} {B:List PanicEntry→World→Prop}
theorem AJ {K:Act→World→Prop} {c:List PanicEntry} (h:QW n Q (.panic c) l w):QW n (Exit.then K Q) (.panic c) l w:=by unfold QW at h ⊢;exact h
theorem AX {i:Nat} {c:List PanicEntry} (h:QW n Q (.panic c) l w):QW n (Exit.inBlock i Q) (.panic c) l w:=by unfold QW at h ⊢;exact h
theorem AE {fn:Func} {R:Ending→World→Prop} {c:List PanicEntry} (h:R (.panicked c) w):QW n (bodyPost P fn R) (.panic c) l w:=by unfold QW;exact fun _ ha=>⟨ha.defers,h⟩
theorem RX {x:Operand} {t:TypeId} {v:Value} {d:Option Nat} (hx:ev l x=some (.iface t v)) (h:QW n Q (.panic [{ v:=.iface t v,recovered:=false }]) l w):LW P n ops Q (⟨d,.panic x,ty,pos,after,none⟩::rest) l w:=by
 unfold LW
 unfold QW at h
 intro a ha
 unfold wpList
 rw [if_pos (Bv rfl)]
 left
 have e:(execOp a.eval ⟨d,.panic x,ty,pos,after,none⟩).run P w = .halt (.panic (.iface t v)) w:=by
  simp [execOp,ha.ev hx,Instr.panic,goPanic,Sem.run_bind,Sem.run,Result.andThen]
 unfold Oper.wp
 rw [e]
 exact h a ha
def Lx (P:Program) (n:Nat) (l:Sl) (op:Op) (ty:TypeId) (w:World) (A:Ending→World→Prop) (B:List PanicEntry→World→Prop):Prop:=
 ∀a dst pos after g (next:Act→World→Prop) (Q:Exit→Act→World→Prop),Env n l a→(∀v w',A (.returned v) w'→next (a.put dst v) w')→(∀c w',B c w'→Q (.panic c) a w')→(⟨dst,op,ty,pos,after,g⟩:Oper).wp P a w next Q
theorem AP {f:FuncId} {xs:List Operand} {tys:Array TypeId} {vs:List Value} (hb:CV P f=true) (hxs:evs l xs=some vs) (C:Calls P f vs.toArray w (Qs A B))
 (hA : ∀e w1,A e w1 → ∃v,e = .returned v):Lx P n l (.call ⟨.value (.func f),xs.toArray,tys⟩) ty w A B:=fun a dst pos after g next Q ha hn hp=>by
 have hargs:xs.map a.eval=vs:=ha.evs hxs
 have e:(execOp a.eval ⟨dst,.call ⟨.value (.func f),xs.toArray,tys⟩,ty,pos,after,g⟩).run P w = .ok (.enter f vs.toArray) w:=by
  simp only [execOp,resolve,Act.eval,Deferred.ofValue,Sem.run_bind,Sem.run_pure,Result.andThen,invoke];rw [Ee hb]
  simp [←hargs]
 unfold Oper.wp
 rw [e]
 refine Calls.mono C fun e w1 h=>?_
 rcases h with h|⟨c,rfl,h⟩
 · obtain ⟨v,rfl⟩:=hA e w1 h
   exact hn v w1 h
 · exact hp c w1 h
theorem A9 {op:Op} {d:Nat} (hp:Lx P n l op ty w A B) (hd:Nat.blt d n=true) (k : ∀v w1,A (.returned v) w1→LW P n ops Q rest ((d,v)::l) w1) (kp : ∀c w1,B c w1→QW n Q (.panic c) l w1) :
 LW P n ops Q (⟨some d,op,ty,pos,after,none⟩::rest) l w:=by
 unfold LW at k ⊢
 unfold QW at kp
 intro a ha
 unfold wpList
 rw [if_pos (Bv rfl)]
 left
 unfold Lx at hp
 exact hp a _ _ _ _ _ _ ha (fun v w1 h=>k v w1 h _ (ha.put hd v)) (fun c w1 h=>kp c w1 h a ha)
theorem MW {S:World→Prop} {K i d:Nat} {x r:Sc} {op:Op} (hi:ops.toList[i]? = some ⟨some d,op,ty,pos,after,none⟩) (hp:Lx P n l op ty w A B) (hd:Nat.blt d n=true)
 (k : ∀v w1,A (.returned v) w1→S w1∧TW P n ops Q S K x ((d,v)::l) w1) (kp : ∀c w1,B c w1→QW n Q (.panic c) l w1) (kr:TW P n ops Q S K r l w):TW P n ops Q S K (.fork i x r) l w:=by
 unfold TW at k kr ⊢
 unfold QW at kp
 unfold Lx at hp
 intro a ha;refine ⟨?_,kr a ha⟩
 have hi':ops[i]? = some ⟨some d,op,ty,pos,after,none⟩:=by simpa using hi
 unfold wpOp
 rw [hi'];simp only;rw [if_pos (Bv rfl)]
 left
 exact hp a _ _ _ _ _ _ ha (fun v w1 h=>⟨(k v w1 h).1,(k v w1 h).2 _ (ha.put hd v)⟩) (fun c w1 h=>kp c w1 h a ha)
def JK (P:Program) (t:TypeId):Bool:=match P.underlying t with
 | some (.struct _)=>true
 | _=>false
theorem Ha {t:TypeId} (h:JK P t=true) : ∃fs,P.underlying t=some (.struct fs):=by
 unfold JK at h
 split at h
 · exact ⟨_,by assumption⟩
 · cases h
theorem Qt {S:World→Prop} {x:Operand} {t:TypeId} {v:Value} (hu:JK P t=true) (hx:ev l x=some v):BE P n l S (.makeInterface t x) ty (.iface t v):=by
 obtain ⟨fs,hu⟩:=Ha hu
 unfold BE
 intro a w dst pos after g ha _
 simp [execOp,ha.ev hx,Instr.makeInterface,AG hu,Result.andThen]
theorem Oy {S:World→Prop} {x:Operand} {t u:TypeId} {v:Value} (hu:JK P t=true) (hx:ev l x=some (.iface t v)):BE P n l S (.typeAssert x u t true) ty (.tuple #[v,.bool true]):=by
 obtain ⟨fs,hu⟩:=Ha hu
 unfold BE
 intro a w dst pos after g ha _
 simp [execOp,ha.ev hx,Instr.typeAssert,AG hu,Result.andThen]
theorem Eu {S:World→Prop} {f:Fn} {xs cs:List Operand} {us vs:List Value} (hx:evs l xs=some us) (hc:evs l cs=some vs):BE P n l S (.makeFunc f xs.toArray cs.toArray) ty (.func f us.toArray vs.toArray):=by
 unfold BE
 intro a w dst pos after g ha _;have e:=ha.evs hx;have e2:=ha.evs hc
 simp [execOp,Instr.makeFunc,e,e2]
variable {tab:Tab}
theorem Il {S:World→Prop} {x:Operand} {t t' sz:Nat} {f:Fn} {us vs:Array Value} (T:TabOk P tab) (ht:AL tab t=some (.func,sz)) (hx:ev l x=some (.func f us vs)):BE P n l S (.binOp .eql t x (.const .nilFunc) t') ty (.bool false):=by
 obtain ⟨a,b,c,hu⟩:=(T _ _ _ ht).under
 unfold BE
 intro act w dst pos after g ha _
 have e1:(eqGuard .eql t x (.const .nilFunc) (.func f us vs) .nilFunc).run P w = .ok () w:=by unfold eqGuard;simp
 have e2:(Op.equal t (.func f us vs) .nilFunc).run P w = .ok false w:=by
  show (Op.equalIn (9999+1) t (.func f us vs) .nilFunc).run P w=_
  unfold Op.equalIn
  simp [AG hu,Result.andThen]
 have hn:act.eval (.const .nilFunc) = .nilFunc:=rfl
 simp [execOp,ha.ev hx,hn,e1,e2,binOp]
theorem A8 {S:World→Prop} {x:Operand} {t t' sz e:Nat} {q:Addr} (T:TabOk P tab) (ht:AL tab t=some (.ptr e,sz)) (hx:ev l x=some (.pointer (some q))):BE P n l S (.binOp .eql t x (.const (.pointer none)) t') ty (.bool false):=by
 have hu:=(T _ _ _ ht).under
 unfold BE
 intro act w dst pos after g ha _
 have e1:(eqGuard .eql t x (.const (.pointer none)) (.pointer (some q)) (.pointer none)).run P w = .ok () w:=by unfold eqGuard;simp
 have e2:(Op.equal t (.pointer (some q)) (.pointer none)).run P w = .ok false w:=by
  show (Op.equalIn (9999+1) t (.pointer (some q)) (.pointer none)).run P w=_
  unfold Op.equalIn
  simp [AG hu,Result.andThen]
 have hn:act.eval (.const (.pointer none)) = .pointer none:=rfl
 simp [execOp,ha.ev hx,hn,e1,e2,binOp]
theorem RY {S:World→Prop} {x:Operand} {t t' sz u:Nat} {v:Value} (T:TabOk P tab) (ht:AL tab t=some (.iface,sz)) (hx:ev l x=some (.iface u v)):BE P n l S (.binOp .eql t x (.const .nilIface) t') ty (.bool false):=by
 obtain ⟨a,hu⟩:=(T _ _ _ ht).under
 unfold BE
 intro act w dst pos after g ha _
 have e1:(eqGuard .eql t x (.const .nilIface) (.iface u v) .nilIface).run P w = .ok () w:=by unfold eqGuard;simp
 have e2:(Op.equal t (.iface u v) .nilIface).run P w = .ok false w:=by
  show (Op.equalIn (9999+1) t (.iface u v) .nilIface).run P w=_
  unfold Op.equalIn
  simp [AG hu,Result.andThen]
 have hn:act.eval (.const .nilIface) = .nilIface:=rfl
 simp [execOp,ha.ev hx,hn,e1,e2,binOp]
theorem Qu {S:World→Prop} {x:Operand} {t t' sz:Nat} (T:TabOk P tab) (ht:AL tab t=some (.iface,sz)) (hx:ev l x=some .nilIface):BE P n l S (.binOp .eql t x (.const .nilIface) t') ty (.bool true):=by
 obtain ⟨a,hu⟩:=(T _ _ _ ht).under
 unfold BE
 intro act w dst pos after g ha _
 have e1:(eqGuard .eql t x (.const .nilIface) .nilIface .nilIface).run P w = .ok () w:=by unfold eqGuard;simp
 have e2:(Op.equal t .nilIface .nilIface).run P w = .ok true w:=by
  show (Op.equalIn (9999+1) t .nilIface .nilIface).run P w=_
  unfold Op.equalIn
  simp [AG hu,Result.andThen]
 have hn:act.eval (.const .nilIface) = .nilIface:=rfl
 simp [execOp,ha.ev hx,hn,e1,e2,binOp]
end
end Bk
