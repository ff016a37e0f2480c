/- Texts that the proofs of GradebookNone, GradebookFull, GradebookNew, GradebookRanks, GradebookApart need. No condition. (Part 1 of 13.) -/
import Derived.Test.YteiiipaobncfgaaGreatRows
import Derived.LaidLaws
import Derived.Shelf.Slices.Clone
import Derived.Shelf.Lays2
import Derived.Shelf.Spec.SlicesInsertGrow
import Derived.Shelf.Slices.Delete
import Derived.Shelf.Slices.Equal
import Derived.Shelf.Lays
import Derived.Test.YteiiipaobncfgaaGreatProg
import Derived.WalkKit
import Derived.Orders
import Derived.OrdersHeld
import Derived.Lib.Hide
import Derived.Laws.AppendOwn
import Derived.IntWalk
import Derived.Lib.ItoaNum
import Derived.Laws.OwnMore
import Derived.Great.BuildSlice
import BkWalk
import Derived.Shelf.Small.Strs
import Derived.Shelf.Strconv.Itoa0
import Derived.Shelf.Strings.Search1
import Derived.Shelf.Strings.Prefix
import Derived.Ground.Names2Prog
import Derived.Lib.LazyBuf
import Derived.RangeFuncRecord
import Derived.RangeFuncLeaves
import Derived.RangeFuncSeq
import Derived.OrdersIn
import Derived.TacticsIn
import Derived.Lib.AtoiErrMem
import Derived.Lib.ConvBytes
import Derived.ArgAppend
import Derived.Laws.StructEq
import Derived.Maps.RangeRun
import Derived.Laws.Cover3
import Derived.Laws.Cover1
import Derived.Recover
import Derived.ChangeArms
import Derived.ProofKit
import Derived.OpenShut
import Derived.Deep.DeepHandedRow
import Derived.ChangeMaps5
import Derived.Laws.IdiomStrings
set_option linter.unusedSimpArgs false
set_option linter.unusedVariables false
set_option linter.defProp false
set_option maxRecDepth 100000
set_option maxHeartbeats 4000000
namespace Bk
abbrev wD := Go.World
abbrev lB := List UInt8
abbrev lV := List Go.Value
abbrev oA := Option Go.Addr
abbrev nP := Nat → Prop
end Bk
open Go.Proofs.Tryz
open List renaming getElem?_eq_getElem->gm,take_succ_eq_append_getElem->gx,getElem_mem->gA,length_cons->gD,take_length->gF,getElem?_eq_none->gG,getElem?_append_left->gJ,length_append->gO,replicate->gT,getElem?_append_right->gU,getElem?_map->gV,drop_eq_getElem_cons->gW,getElem?_cons_zero->gX,getD_eq_getElem?_getD->gY,append_assoc->gZ,length_nil->hH,mem_singleton->ia,length_take->ij,mem_cons->ik,map_cons->im,mem_of_getElem?->io,range->it,getElem?_set_ne->iF,not_mem_nil->iH
open Go.Lib renaming hid->gp
open Or renaming inl->gq,inr->gt
open Bool renaming and_eq_true->gu,false_eq_true->iE
open Go.Result renaming andThen->gw
open Option.some renaming injEq->gy,inj->gB
open Go.IntWalk renaming i64_in->gz
open Nat renaming zero_le->gC,le_refl->gI,lt_or_ge->gK,blt->gM,le_of_ble_eq_true->gS,eq_of_beq_eq_true->ip,zero_add->iu,ble->iy,beq->iA
open Go.Sem renaming run_bind->gE,run_pure->gP
open Go renaming Calls->gH
open Except renaming bind->gL
open Go.Value renaming slice->gN,int->ii,ownBlock->iI
open Go.Region renaming ready->gQ,binds->iw
open Go.Value.slice renaming injEq->gR
open Go.DataW renaming trod->ic
open List.cons renaming injEq->ig
open Go.Builtin renaming zeroCells->iq
open Go.Calls renaming mono->ir
open Array renaming getElem?_eq_none->iv,replicate->iD
open Go.Oper renaming wp->iB
open Go.Addr renaming add->iC
open Go.IntKind renaming wrap->iG
open Go.Op renaming equalIn->iJ
namespace Bk
abbrev AB:= @if_neg
abbrev AQ:= @if_pos
end Bk
namespace Go.Proofs
open Go.Shelf
def Tryz.lays2n15_ren:Go.Shelf.Ren:=⟨fun|15=>88|n=>n,fun|22=>43|3=>3|4=>4|n=>n,fun|n=>n⟩
def Tryz.lays2n15:Go.Proofs.Lays2.n15 prog Tryz.lays2n15_ren:={
 mixed:=by kernel_rfl
 f15:=func88.trans (congrArg some (by kernel_rfl))
 t3:=underlying3
 a3:=isAgg3
 z3:=sizeOf3
 v3:=zeroValue3
 t4:=underlying4
 a4:=isAgg4
 z4:=sizeOf4
 v4:=zeroValue4
 t22:=underlying43
 a22:=isAgg43
 z22:=sizeOf43
 v22:=zeroValue43
 i3:=by kernel_rfl }
def Tryz.lays2n21_ren:Go.Shelf.Ren:=⟨fun|21=>247|27=>248|28=>249|35=>250|39=>251|n=>n,fun|22=>43|3=>3|4=>4|0=>0|n=>n,fun|n=>n⟩
def Tryz.lays2n21:Go.Proofs.Lays2.n21 prog Tryz.lays2n21_ren:={
 mixed:=by kernel_rfl
 f21:=func247.trans (congrArg some (by kernel_rfl))
 f27:=func248.trans (congrArg some (by kernel_rfl))
 f28:=func249.trans (congrArg some (by kernel_rfl))
 f35:=func250.trans (congrArg some (by kernel_rfl))
 f39:=func251.trans (congrArg some (by kernel_rfl))
 t0:=underlying0
 a0:=isAgg0
 z0:=sizeOf0
 v0:=zeroValue0
 t3:=underlying3
 a3:=isAgg3
 z3:=sizeOf3
 v3:=zeroValue3
 t4:=underlying4
 a4:=isAgg4
 z4:=sizeOf4
 v4:=zeroValue4
 t22:=underlying43
 a22:=isAgg43
 z22:=sizeOf43
 v22:=zeroValue43
 i3:=by kernel_rfl }
def Tryz.lays2n23_ren:Go.Shelf.Ren:=⟨fun|23=>246|n=>n,fun|22=>43|3=>3|4=>4|0=>0|n=>n,fun|n=>n⟩
def Tryz.lays2n23:Go.Proofs.Lays2.n23 prog Tryz.lays2n23_ren:={
 mixed:=by kernel_rfl
 f23:=func246.trans (congrArg some (by kernel_rfl))
 t0:=underlying0
 a0:=isAgg0
 z0:=sizeOf0
 v0:=zeroValue0
 t3:=underlying3
 a3:=isAgg3
 z3:=sizeOf3
 v3:=zeroValue3
 t4:=underlying4
 a4:=isAgg4
 z4:=sizeOf4
 v4:=zeroValue4
 t22:=underlying43
 a22:=isAgg43
 z22:=sizeOf43
 v22:=zeroValue43
 i3:=by kernel_rfl }
def Tryz.laysn111_ren:Go.Shelf.Ren:=⟨fun|111=>124|n=>n,fun|28=>43|3=>3|4=>4|0=>0|n=>n,fun|n=>n⟩
def Tryz.laysn111:Go.Proofs.Lays.n111 prog Tryz.laysn111_ren:={
 mixed:=by kernel_rfl
 f111:=func124.trans (congrArg some (by kernel_rfl))
 t0:=underlying0
 a0:=isAgg0
 z0:=sizeOf0
 v0:=zeroValue0
 t3:=underlying3
 a3:=isAgg3
 z3:=sizeOf3
 v3:=zeroValue3
 t4:=underlying4
 a4:=isAgg4
 z4:=sizeOf4
 v4:=zeroValue4
 t28:=underlying43
 a28:=isAgg43
 z28:=sizeOf43
 v28:=zeroValue43 }
end Go.Proofs
namespace Bk
open Go Go.RowKit
def Ext (w w':wD):Prop:=Below w.heap.size w w'
def Ext.refl (w:wD):Ext w w:=Below.refl _ _
def Ext.trans {a b c:wD} (h:Ext a b) (k:Ext b c):Ext a c:=Below.trans h (Below.mono k h.size)
def Ext.alloc {a w:wD} (h:Ext a w) (o:Obj):Ext a (w.alloc o):=Below.alloc h h.size o
def Ext.drew {a w:wD} (h:Ext a w):Ext a w.drew:=Below.drew h
def Ext.size {a w:wD} (h:Ext a w):a.heap.size<=w.heap.size:=Below.size h
def Ext.block {a w:wD} (h:Ext a w) {k:Nat} (G:k<a.heap.size):w.heap[k]? = a.heap[k]? := Below.block h k G
def Ext.cells {a w:wD} (h:Ext a w):∀b o,b<a.heap.size->w.cell? ⟨b,o,none⟩=a.cell? ⟨b,o,none⟩:=λb o G=>Below.cell (p:=⟨b,o,none⟩) h G
def Cg {w:wD} {p:Addr} {v:Value} (h:w.cell? p=some v):p.block<w.heap.size:=by
 unfold World.cell? at h;rcases gK p.block w.heap.size with G|G
 . exact G
 . simp [iv G] at h
def Ext.keep {a w:wD} (h:Ext a w) {b o:Nat} {v:Value} (G:a.cell? ⟨b,o,none⟩=some v):w.cell? ⟨b,o,none⟩=some v:=
 (h.cells b o (Cg G)).trans G
inductive Nd where
 | mk (kind num:Int) (name:lB) (kids:List Nd)
def Nd.kind:Nd->Int | .mk k _ _ _=>k
def Nd.num:Nd->Int | .mk _ n _ _=>n
def Nd.name:Nd->lB | .mk _ _ s _=>s
def Nd.kids:Nd->List Nd | .mk _ _ _ l=>l
abbrev str (l:lB):Value:=.string ⟨l.toArray⟩
abbrev Nd.val (t:Nd) (a:oA) (c:Nat):Value:=.agg #[.int .u8 t.kind,.int .i64 t.num,str t.name,.slice a t.kids.length c]
abbrev Nd.cells (t:Nd) (a:oA) (c:Nat):lV:=[.int .u8 t.kind,.int .i64 t.num,str t.name,.slice a t.kids.length c]
mutual
def Nd.sits (S:nP) (w:wD):Nd->oA->Prop
 | .mk _ _ _ l,a=>rowSits S w l a
def rowSits (S:nP) (w:wD):List Nd->oA->Prop
 | [],_=>True
 | t::r,a=> ∃b o a' c,a=some ⟨b,o,none⟩/\S b/\w.cell? ⟨b,o,none⟩=some (.int .u8 t.kind)/\w.cell? ⟨b,o+1,none⟩=some (.int .i64 t.num) /\
  w.cell? ⟨b,o+2,none⟩=some (str t.name)/\w.cell? ⟨b,o+3,none⟩=some (.slice a' t.kids.length c)/\t.sits S w a'/\rowSits S w r (some ⟨b,o+4,none⟩)
end
mutual
def Nd.wf:Nd->Prop
 | .mk k n s l=>0<=k/\k<=255 /\ -9223372036854775808<=n/\n<=9223372036854775807/\s.length<=9223372036854775807/\l.length<=9223372036854775807/\CJ l
def CJ:List Nd->Prop
 | []=>True
 | t::r=>t.wf/\CJ r
end
mutual
def Nd.size:Nd->Nat
 | .mk _ _ _ l=>1+AU l
def AU:List Nd->Nat
 | []=>0
 | t::r=>t.size+AU r
end
def BK {l:List Nd} (h:CJ l):∀t∈l,t.wf:=by
 induction l with
 | nil=>simp
 | cons x r M=>
  simp only [CJ] at h;intro t G;rcases ik.1 G with rfl|G
  . exact h.1
  . exact M h.2 t G
def D6 {l:List Nd} {t:Nd} (h:t∈l):t.size<=AU l:=by
 induction l with
 | nil=>cases h
 | cons x r G=>
  simp only [AU];rcases ik.1 h with rfl|h
  . omega
  . have:=G h;omega
def Nd.size_pos (t:Nd):1<=t.size:=by cases t;simp [Nd.size]
def FE {S:nP} {w:wD} {l:List Nd} {a:oA} (h:rowSits S w l a) {i:Nat} {t:Nd} (G:l[i]? = some t) :
 ∃b o M c,a=some ⟨b,o,none⟩/\S b/\w.cell? ⟨b,o+i*4,none⟩=some (.int .u8 t.kind)/\w.cell? ⟨b,o+i*4+1,none⟩=some (.int .i64 t.num) /\
  w.cell? ⟨b,o+i*4+2,none⟩=some (str t.name)/\w.cell? ⟨b,o+i*4+3,none⟩=some (.slice M t.kids.length c)/\t.sits S w M:=by
 induction l generalizing i a with
 | nil=>simp at G
 | cons x r U=>
  simp only [rowSits] at h;obtain ⟨b,o,M,c,rfl,V,X,Y,Z,h3,hs,hr⟩:=h;cases i with
  | zero=>
   simp at G;subst G;exact ⟨b,o,M,c,rfl,V,X,Y,Z,h3,hs⟩
  | succ i=>
   obtain ⟨b',o',N,c',O,r⟩:=U hr (by simpa using G);simp only [gy,Addr.mk.injEq] at O;obtain ⟨rfl,rfl,-⟩:=O;refine ⟨b,o,N,c',rfl,r.1,?_⟩;rw [show o+(i+1)*4=o+4+i*4 from by omega];exact r.2
mutual
def Nd.sits_mono {S S':nP} {w w':wD} (hS:∀b,S b->S' b) (hc:∀b o v,S b->w.cell? ⟨b,o,none⟩=some v->w'.cell? ⟨b,o,none⟩=some v) :
 ∀(t:Nd) (a:oA),t.sits S w a->t.sits S' w' a
 | .mk _ _ _ l,a,h=>by
  simp only [Nd.sits] at h ⊢;exact E2 hS hc l a h
def E2 {S S':nP} {w w':wD} (hS:∀b,S b->S' b) (hc:∀b o v,S b->w.cell? ⟨b,o,none⟩=some v->w'.cell? ⟨b,o,none⟩=some v) :
 ∀(l:List Nd) (a:oA),rowSits S w l a->rowSits S' w' l a
 | [],_,_=>by simp [rowSits]
 | t::r,a,h=>by
  simp only [rowSits] at h ⊢;obtain ⟨b,o,a',c,rfl,hb,h0,h1,h2,h3,hs,hr⟩:=h;exact ⟨b,o,a',c,rfl,hS b hb,hc _ _ _ hb h0,hc _ _ _ hb h1,hc _ _ _ hb h2,hc _ _ _ hb h3,Nd.sits_mono hS hc t a' hs,E2 hS hc r _ hr⟩
end
def rowSits.ext {S:nP} {w w':wD} {l:List Nd} {a:oA} (h:rowSits S w l a) (e:Ext w w'):rowSits S w' l a:=
 E2 (λ_ h=>h) (λ_ _ _ _ G=>e.keep G) l a h
def Nd.sits.ext {S:nP} {w w':wD} {t:Nd} {a:oA} (h:t.sits S w a) (e:Ext w w'):t.sits S w' a:=
 Nd.sits_mono (λ_ h=>h) (λ_ _ _ _ G=>e.keep G) t a h
structure Fr (S:nP) (w w':wD):Prop where
 os:w'.os=w.os
 tape:w'.tape=w.tape
 output:w'.output=w.output
 size:w.heap.size<=w'.heap.size
 block:∀k,k<w.heap.size -> ¬S k->w'.heap[k]? = w.heap[k]?
def Fr.refl (S:nP) (w:wD):Fr S w w:=⟨rfl,rfl,rfl,gI _,λ_ _ _=>rfl⟩
def Fr.trans {S:nP} {a b c:wD} (h:Fr S a b) (k:Fr S b c):Fr S a c:=
 ⟨k.os.trans h.os,k.tape.trans h.tape,k.output.trans h.output,Nat.le_trans h.size k.size,λi G M=>(k.block i (Nat.lt_of_lt_of_le G h.size) M).trans (h.block i G M)⟩
def Fr.of_ext {S:nP} {a b:wD} (h:Ext a b):Fr S a b:=⟨Below.os h,Below.tape h,Below.output h,Below.size h,λk G _=>Below.block h k G⟩
def Fr.setCell {S:nP} {a w:wD} (h:Fr S a w) (p:Addr) (v:Value) (G:S p.block\/a.heap.size<=p.block):Fr S a (w.setCell p v):=by
 refine ⟨h.os,h.tape,h.output,?_,λk N M=>?_⟩
 . have:(w.setCell p v).heap.size=w.heap.size:=by simp [World.setCell]
   rw [this];exact h.size
 . rw [Below.heap_setCell _ _ _ _ (by rintro rfl;rcases G with G|G;exact M G;omega)];exact h.block k N M
def Fr.cells {S:nP} {a w:wD} (h:Fr S a w):∀b o,b<a.heap.size -> ¬S b->w.cell? ⟨b,o,none⟩=a.cell? ⟨b,o,none⟩:=
 λb _ G M=>World.cell?_of_block (w:=a) (h.block b G M)
def Fr.keep {S:nP} {a w:wD} (h:Fr S a w) {b o:Nat} {v:Value} (M:¬S b) (G:a.cell? ⟨b,o,none⟩=some v):w.cell? ⟨b,o,none⟩=some v:=
 (h.cells b o (Cg G) M).trans G
def rowSits.fr {S T:nP} {w w':wD} {l:List Nd} {a:oA} (h:rowSits S w l a) (e:Fr T w w') (G:∀b,S b -> ¬T b):rowSits S w' l a:=
 E2 (λ_ h=>h) (λb _ _ M N=>e.keep (G b M) N) l a h
def Nd.sits.fr {S T:nP} {w w':wD} {t:Nd} {a:oA} (h:t.sits S w a) (e:Fr T w w') (G:∀b,S b -> ¬T b):t.sits S w' a:=
 Nd.sits_mono (λ_ h=>h) (λb _ _ M N=>e.keep (G b M) N) t a h
abbrev Sl:=List (Nat×Value)
def look:Sl->Nat->Option Value
 | [],_=>none
 | (k,v)::r,d=>match iA k d with
  | true=>some v
  | false=>look r d
def ev (l:Sl):Operand->Option Value
 | .tmp t=>look l t
 | .const v=>some v
 | .global g=>some (.pointer (some ⟨g,0,none⟩))
 | .func f=>some (.func (.func f) #[] #[])
def evs (l:Sl):List Operand->Option lV
 | []=>some []
 | x::r=>match ev l x with
  | none=>none
  | some v=>match evs l r with
   | none=>none
   | some vs=>some (v::vs)
structure Env (n:Nat) (l:Sl) (a:Act):Prop where
 size:a.tmps.size=n
 defers:a.defers=[]
 has:∀d v,look l d=some v->a.tmps.getD d undef=v
def Env.ev {n:Nat} {l:Sl} {a:Act} (h:Env n l a) {x:Operand} {v:Value} (G:ev l x=some v):a.eval x=v:=by
 cases x with
 | tmp t=>exact h.has t v G
 | const c=>simpa [Bk.ev,Act.eval] using G
 | global g=>simpa [Bk.ev,Act.eval] using G
 | func f=>simpa [Bk.ev,Act.eval] using G
def Env.evs {n:Nat} {l:Sl} {a:Act} (h:Env n l a):∀ {xs:List Operand} {vs:lV},evs l xs=some vs->xs.map a.eval=vs
 | [],vs,G=>by simp [Bk.evs] at G;simp [G]
 | x::r,vs,G=>by
  simp only [Bk.evs] at G;cases h1:Bk.ev l x with
  | none=>simp [h1] at G
  | some v=>
   cases h2:Bk.evs l r with
   | none=>simp [h1,h2] at G
   | some us=>
    simp [h1,h2] at G;subst G;simp [h.ev h1,Env.evs h h2]
def Hz (k:Nat) (v:Value) (l:Sl) (d:Nat):look ((k,v)::l) d=if k=d then some v else look l d:=by
 simp only [look];by_cases h:k=d
 . subst h;simp
 . have:iA k d=false:=by
    cases hb:iA k d
    . rfl
    . exact absurd (ip hb) h
   rw [this,AB h]
def Env.put {n:Nat} {l:Sl} {a:Act} (h:Env n l a) {d:Nat} (N:gM d n=true) (v:Value):Env n ((d,v)::l) (a.put (some d) v):=by
 have M:d<n:=gS N;refine ⟨by simp [Act.put,h.size],by simp [Act.put,h.defers],λk u G=>?_⟩;rw [Hz] at G;simp only [Act.put];by_cases e:d=k
 . subst e;simp at G;subst G;simp [h.size,M]
 . rw [AB e] at G;have:=h.has k u G;simpa [Array.getElem?_setIfInBounds_ne e] using this
def SN (m l:Sl):Prop:= ∀d v,look m d=some v->look l d=some v
def Env.sub {n:Nat} {m l:Sl} {a:Act} (h:Env n l a) (G:SN m l):Env n m a:=⟨h.size,h.defers,λd v M=>h.has d v (G d v M)⟩
def BB {l:Sl}:SN [] l:=λ_ _ h=>by simp [look] at h
def Am {m l:Sl} {d:Nat} {v:Value} (h:look l d=some v) (r:SN m l):SN ((d,v)::m) l:=λk u G=>by
 rw [Hz] at G;by_cases e:d=k
 . subst e;simp at G;subst G;exact h
 . rw [AB e] at G;exact r k u G
def BL {m l:Sl} {d:Nat} {v G:Value} (h:look l d=some G) (e:G=v) (r:SN m l):SN ((d,v)::m) l:=Am (e▸h) r
def CW (P:Program) (n:Nat) (c:Code) (Q:Exit->Act->wD->Prop) (l:Sl) (w:wD):Prop:= ∀a,Env n l a->c.wp P Q a w
def LW (P:Program) (n:Nat) (ops:Array Oper) (Q:Exit->Act->wD->Prop) (os:List Oper) (l:Sl) (w:wD):Prop:= ∀a,Env n l a->wpList P ops Q os a w
def QW (n:Nat) (Q:Exit->Act->wD->Prop) (e:Exit) (l:Sl) (w:wD):Prop:= ∀a,Env n l a->Q e a w
section code
variable {P:Program} {n:Nat} {Q:Exit->Act->wD->Prop} {l:Sl} {w:wD}
def CW.sub {c:Code} {m:Sl} (h:CW P n c Q m w) (G:SN m l):CW P n c Q l w:=λa M=>h a (M.sub G)
def Aj {x y:Code} (h:CW P n x (Exit.then (y.wp P Q) Q) l w):CW P n (.seq x y) Q l w:=λa G=>wp_seq (h a G)
def Z6 {x y:Code} (I:Act->wD->Prop) (h:CW P n x (Exit.then I Q) l w) (k:∀a w,I a w->y.wp P Q a w):CW P n (.seq x y) Q l w:=λa G=>
 wp_seq (Code.wp_mono (λe a w q=>by cases e<;>first|exact k _ _ q|exact q) (h a G))
def Ai {y:Code} (h:CW P n y Q l w):QW n (Exit.then (y.wp P Q) Q) .normal l w:=h
def TL {I:Act->wD->Prop} (h:∀a,Env n l a->I a w):QW n (Exit.then I Q) .normal l w:=h
def Au {K:Act->wD->Prop} (h:QW n Q .ret l w):QW n (Exit.then K Q) .ret l w:=h
def Av {K:Act->wD->Prop} {i:Nat} (h:QW n Q (.exit i) l w):QW n (Exit.then K Q) (.exit i) l w:=h
def Ao (h:QW n Q .normal l w):CW P n .skip Q l w:=λa G=>wp_skip (h a G)
def BF {i:Nat} (h:QW n Q (.exit i) l w):CW P n (.exit i) Q l w:=λa G=>wp_exit (h a G)
def AM (h:QW n Q .ret l w):CW P n .ret Q l w:=λa G=>wp_ret (h a G)
def As {i:Nat} {c:Code} (h:CW P n c (Exit.inBlock i Q) l w):CW P n (.block i c) Q l w:=λa G=>wp_block (h a G)
def Ah {i:Nat} (h:QW n Q .normal l w):QW n (Exit.inBlock i Q) .normal l w:=h
def AJ {i:Nat} (h:QW n Q .ret l w):QW n (Exit.inBlock i Q) .ret l w:=h
def AO {i:Nat} (h:QW n Q .normal l w):QW n (Exit.inBlock i Q) (.exit i) l w:=λa G=>by simp only [Exit.inBlock,if_true];exact h a G
def BJ {c:Operand} {x y:Code} (M:ev l c=some (.bool true)) (h:CW P n x Q l w):CW P n (.cond c x y) Q l w:=λa G=>wp_cond_true (G.ev M) (h a G)
def AY {c:Operand} {x y:Code} (M:ev l c=some (.bool false)) (h:CW P n y Q l w):CW P n (.cond c x y) Q l w:=λa G=>wp_cond_false (G.ev M) (h a G)
def FF {c:Operand} {x y:Code} {b:Bool} (G:ev l c=some (.bool b)) (M:b=true->CW P n x Q l w) (N:b=false->CW P n y Q l w):CW P n (.cond c x y) Q l w:=
 λa h=>wp_cond_split (h.ev G) (λe=>M e a h) (λe=>N e a h)
def Ay {c:Operand} {x y:Code} {p:Prop} [Decidable p] (h:ev l c=some (.bool (decide p))) (G:p->CW P n x Q l w) (M:¬p->CW P n y Q l w):CW P n (.cond c x y) Q l w:=
 FF h (λe=>G (of_decide_eq_true e)) (λe=>M (of_decide_eq_false e))
def Ru {c:Operand} {x y:Code} {p:Prop} [Decidable p] (G:ev l c=some (.bool (decide p))) (M:p) (h:CW P n x Q l w):CW P n (.cond c x y) Q l w:=
 Ay G (λ_=>h) (λe=>absurd M e)
def M6 {c:Operand} {x y:Code} {p:Prop} [Decidable p] (G:ev l c=some (.bool (decide p))) (M:¬p) (h:CW P n y Q l w):CW P n (.cond c x y) Q l w:=
 Ay G (λe=>absurd e M) (λ_=>h)
def G3 {c:Operand} {x y:Code} {b:Bool} (G:ev l c=some (.bool b)) (M:b=true) (h:CW P n x Q l w):CW P n (.cond c x y) Q l w:=BJ (M▸G) h
def G4 {c:Operand} {x y:Code} {b:Bool} (G:ev l c=some (.bool b)) (M:b=false) (h:CW P n y Q l w):CW P n (.cond c x y) Q l w:=AY (M▸G) h
def Al {M:Nat} {G:List Oper} (h:LW P n G.toArray Q G l w):CW P n (.region M G.toArray false) Q l w:=λa N=>wp_region_lit (h a N)
def AG {ι:Type} {c:Code} (L:ι->Sl) (I:ι->wD->Prop) (μ:ι->Nat) (X:ι) (hs:SN (L X) l) (h₀:I X w)
 (M:∀x w,I x w->CW P n c (Exit.then (λO w'=> ∃y,Env n (L y) O/\I y w'/\μ y<μ x) Q) (L x) w):CW P n (.loop c) Q l w:=by
 intro a ha;intro b k cs;have key:∀m x a w,μ x=m->I x w->Env n (L x) a ->
  ∃e O w',Q e O w'/\Arrives P (lone (b.at a (.code c::.inLoop c::k)) cs w) b k cs e O w':=by
  intro m
  induction m using Nat.strongRecOn with
  | _ m ih=>
   intro x a w hm hI hE;obtain ⟨e,U,V,G,h⟩:=M x w hI a hE b (.inLoop c::k) cs;cases e with
   | normal=>
    obtain ⟨y,Y,Z,aa⟩:=G;obtain ⟨e₂,a₂,w₂,ab,N⟩:=ih (μ y) (hm▸aa) y U V rfl Z Y;exact ⟨e₂,a₂,w₂,ab,.of_steps (Steps.trans h (.one step_inLoop)) N⟩
   | exit id=>exact ⟨_,U,V,G,.pass (x:=.inLoop c) rfl (λ_ _=>.inl (by simp)) h⟩
   | goto l=>exact ⟨_,U,V,G,.pass (x:=.inLoop c) rfl (λ_ _=>.inl (by simp)) h⟩
   | ret=>exact ⟨_,U,V,G,.pass (x:=.inLoop c) rfl (λ_ _=>.inl (by simp)) h⟩
   | panic ch=>exact ⟨_,U,V,G,.pass (x:=.inLoop c) rfl (λ_ _=>.inl (by simp)) h⟩
   | outgrown=>exact ⟨_,U,V,G,h⟩
 obtain ⟨e,O,w',G,h⟩:=key (μ X) X a w rfl h₀ (ha.sub hs);exact ⟨e,O,w',G,.of_steps (.one step_loop) h⟩
def Aw {ι:Type} {L:ι->Sl} {I:ι->wD->Prop} {μ:ι->Nat} {x:ι} (y:ι) (G:SN (L y) l) (h:I y w) (M:μ y<μ x) :
 QW n (Exit.then (λN w'=> ∃y,Env n (L y) N/\I y w'/\μ y<μ x) Q) .normal l w:=λ_ O=>⟨y,O.sub G,h,M⟩
end code
def Gu:Nat->lV->Sl
 | _,[]=>[]
 | i,v::r=>(i,v)::Gu (i+1) r
def F9 (d:Nat) (v:Value):∀(vs:lV) (i:Nat),look (Gu i vs) d=some v->i<=d/\vs[d-i]? = some v
 | [],_,h=>by simp [Gu,look] at h
 | u::r,i,h=>by
  simp only [Gu] at h;rw [Hz] at h;by_cases e:i=d
  . subst e;simp at h;subst h;simp
  . rw [AB e] at h;obtain ⟨M,G⟩:=F9 d v r (i+1) h;refine ⟨by omega,?_⟩;rw [show d-i=(d-(i+1))+1 from by omega];simpa using G
def Ad {P:Program} {f:FuncId} {fn:Func} {c:Code} {args:lV} {n:Nat} {w:wD} {R:Ending->wD->Prop}
 (M:P.funcs[f]? = some fn) (X:fn.ntmps=n) (N:fn.body=some c) (O:iy args.length n=true) (h:CW P n c (bodyPost P fn R) (Gu 0 args) w):Calls P f args.toArray w R:=by
 refine calls_of_wp M N (h _ ?_);have U:args.length<=n:=by simpa using O
 refine ⟨by simp;omega,rfl,λd v V=>?_⟩;obtain ⟨-,G⟩:=F9 d v args 0 V;simp only [Nat.sub_zero] at G;have:d<args.length:=by
  rcases gK d args.length with h|h
  . exact h
  . rw [gG h] at G;cases G
 rw [gm this] at G;simp only [gy] at G;simp [Array.getElem?_append,this,G]
section ends
variable {P:Program} {fn:Func} {n:Nat} {R:Ending->wD->Prop} {l:Sl} {w:wD}
def EF (h:fn.results = #[]) (G:R (.returned (.tuple #[])) w):QW n (bodyPost P fn R) .ret l w:=λa M=>⟨M.defers,_,results_none h _ _ _,G⟩
def Bi (h:fn.results = #[]) (G:R (.returned (.tuple #[])) w):QW n (bodyPost P fn R) .normal l w:=λa M=>⟨M.defers,_,results_none h _ _ _,G⟩
def AP {t:Nat} {v:Value} (h:fn.results = #[.tmp t]) (M:look l t=some v) (N:R (.returned v) w):QW n (bodyPost P fn R) .ret l w:=λa G=>
 ⟨G.defers,_,results_tmp h _ _ _,by rw [G.has t v M];exact N⟩
def Ba {t u:Nat} {v x:Value} (h:fn.results = #[.tmp t,.tmp u]) (M:look l t=some v) (N:look l u=some x) (O:R (.returned (.tuple #[v,x])) w):QW n (bodyPost P fn R) .ret l w:=λa G=>
 ⟨G.defers,_,results_tmp2 h _ _ _,by rw [G.has t v M,G.has u x N];exact O⟩
end ends
inductive Sk where
 | int (k:IntKind)|bool|str|slice (e:Nat)|struct (fs:List (Nat×Nat))|array (len e:Nat)|ptr (e:Nat)|map (k e:Nat)|func|iface
abbrev Tab:=List (Nat×Sk×Nat)
variable {e t n:Nat} {x:Operand} {v:Value} {vs:lV} {N:Option Value->wD->Prop} {S:nP} {q:Bool} {w w':wD} {Q:Exit->Act->wD->Prop} {h:List (Nat×Nat)} {p:Addr} {c:Array Oper} {P:Program} {g:Prop} {k:IntKind} {j:Int} {s:Sk} {l:Sl} {o:Oper} {op:Op}
def Az:Tab->Nat->Option (Sk×Nat)
 | [],_=>none
 | p::r,t=>match iA p.1 t with
  | true=>some p.2
  | false=>Az r t
def Sk.ok (P:Program) (t:Nat):Sk->Prop
 | .int k=>P.underlying t=some (.int k)
 | .bool=>P.underlying t=some .bool
 | .str=>P.underlying t=some .string
 | .slice e=>P.underlying t=some (.slice e)
 | .array n e=>P.underlying t=some (.array n e)
 | .ptr e=>P.underlying t=some (.pointer e)
 | .map k e=>P.underlying t=some (.map k e)
 | .func=> ∃a b c,P.underlying t=some (.func a b c)
 | .iface=> ∃a,P.underlying t=some (.interface a)
 | .struct fs=> ∃gs,P.underlying t=some (.struct gs)/\gs.size=fs.length /\ ∀(i o ft:Nat),fs[i]? = some (o,ft) -> ∃g:Field,gs[i]? = some g/\g.offset=o/\g.type=ft /\ ∃j:TypeInfo,P.info? ft=some j/\j.size≠0
def Sk.check (P:Program) (t:Nat):Sk->Bool
 | .int k=>match P.underlying t with|some (.int k')=>decide (k=k')|_=>false
 | .bool=>match P.underlying t with|some .bool=>true|_=>false
 | .str=>match P.underlying t with|some .string=>true|_=>false
 | .slice e=>match P.underlying t with|some (.slice e')=>iA e' e|_=>false
 | .array n e=>match P.underlying t with|some (.array n' e')=>iA n' n&&iA e' e|_=>false
 | .ptr e=>match P.underlying t with|some (.pointer e')=>iA e' e|_=>false
 | .map k e=>match P.underlying t with|some (.map k' e')=>iA k' k&&iA e' e|_=>false
 | .func=>match P.underlying t with|some (.func _ _ _)=>true|_=>false
 | .iface=>match P.underlying t with|some (.interface _)=>true|_=>false
 | .struct fs=>match P.underlying t with
  | some (.struct gs)=>iA gs.size fs.length&&(it fs.length).all λi=>match fs[i]?,gs[i]? with
   | some (o,ft),some g=>iA g.offset o&&iA g.type ft&&match P.info? ft with|some j=> !Nat.beq j.size 0|none=>false
   | _,_=>false
  | _=>false
def Sk.ok_of_check (h:s.check P t=true):s.ok P t:=by
 cases s with
 | struct V=>
  simp only [Sk.check] at h;split at h
  . rename_i Y Z;simp only [gu,List.all_eq_true,List.mem_range] at h;refine ⟨Y,Z,ip h.1,λi o ft N=>?_⟩;have O:i<V.length:=by
     rcases gK i V.length with U|U
     . exact U
     . rw [gG U] at N;cases N
    have G:=h.2 i O;rw [N] at G;split at G
    . rename_i o' aa g X e2;simp only [gy,Prod.mk.injEq] at X;obtain ⟨rfl,rfl⟩:=X;simp only [gu] at G;refine ⟨g,e2,ip G.1.1,ip G.1.2,?_⟩;have M:=G.2;split at M
      . rename_i j hj;exact ⟨j,hj,λe=>by rw [e] at M;simp at M⟩
      . cases M
    . cases G
  . cases h
 | func=>
  simp only [Sk.check] at h;split at h
  . exact ⟨_,_,_,by assumption⟩
  . cases h
 | iface=>
  simp only [Sk.check] at h;split at h
  . exact ⟨_,by assumption⟩
  . cases h
 | int k=>simp only [Sk.check] at h;split at h<;>simp_all [Sk.ok]
 | bool=>simp only [Sk.check] at h;split at h<;>simp_all [Sk.ok]
 | str=>simp only [Sk.check] at h;split at h<;>simp_all [Sk.ok]
 | slice e=>simp only [Sk.check] at h;split at h<;>simp_all [Sk.ok]
 | ptr e=>simp only [Sk.check] at h;split at h<;>simp_all [Sk.ok]
 | array n e=>simp only [Sk.check] at h;split at h<;>simp_all [Sk.ok]
 | map n e=>simp only [Sk.check] at h;split at h<;>simp_all [Sk.ok]
structure TyOk (P:Program) (t:Nat) (s:Sk) (sz:Nat):Prop where
 under:s.ok P t
 info:∃i,P.info? t=some i/\i.size=sz
def TabOk (P:Program) (tab:Tab):Prop:= ∀t s sz,Az tab t=some (s,sz)->TyOk P t s sz
def Tab.check (P:Program) (tab:Tab):Bool:=tab.all λp=>p.2.1.check P p.1&&match P.info? p.1 with|some i=>iA i.size p.2.2|none=>false
def TM {tab:Tab} {x:Sk×Nat} (h:Az tab t=some x):(t,x)∈tab:=by
 induction tab with
 | nil=>simp [Az] at h
 | cons p r G=>
  simp only [Az] at h;split at h
  . rename_i M;have:=ip M;simp only [gy] at h;subst h this;exact List.mem_cons_self
  . exact List.mem_cons_of_mem _ (G h)
def TabOk.of_check {tab:Tab} (h:tab.check P=true):TabOk P tab:=λt s sz M=>by
 have:=List.all_eq_true.1 h _ (TM M);simp only [gu] at this;refine ⟨Sk.ok_of_check this.1,?_⟩;have G:=this.2;split at G
 . rename_i i N;exact ⟨i,N,ip G⟩
 . cases G
def Bh (P:Program) (n:Nat) (l:Sl) (S:wD->Prop) (op:Op) (ty:TypeId) (v:Value):Prop:=
 ∀a w dst pos after g,Env n l a->S w->(execOp a.eval ⟨dst,op,ty,pos,after,g⟩).run P w = .ok (.value v) w
section pur
variable {P:Program} {n:Nat} {l:Sl} {S:wD->Prop} {ty:TypeId} {tab:Tab}
def Ar (h:ev l x=some v):Bh P n l S (.move x) ty v:=λa w G pos after g M _=>by
 simp [execOp,M.ev h]
def Gv (h:ev l x=some v):Bh P n l S (.assign x) ty v:=λa w G pos after g M _=>by
 simp [execOp,M.ev h]
def AA {d:TypeDesc} (h:P.underlying t=some d) (w:wD):(underlying t).run P w = .ok d w:=by
 simp [underlying,program,Sem.run,h,bind,Sem.bind,pure]
def Vx {i:TypeInfo} (h:P.info? t=some i) (w:wD):(Go.sizeOf t).run P w = .ok i.size w:=by
 simp [Go.sizeOf,typeInfo,program,Sem.run,h,bind,Sem.bind,pure]
def B3 {sz:Nat} (h:TyOk P t s sz) (w:wD):(Go.sizeOf t).run P w = .ok sz w:=by
 obtain ⟨i,G,M⟩:=h.info;simp [Go.sizeOf,typeInfo,program,Sem.run,G,bind,Sem.bind,pure,M]
def AZ {s f b o h sz:Nat} {M:List (Nat×Nat)} (T:TabOk P tab) (O:ev l x=some (.pointer (some ⟨b,o,none⟩)))
 (U:Az tab s=some (.struct M,sz)) (V:M[f]? = some (h,t)):Bh P n l S (.fieldAddr s x f) ty (.pointer (some ⟨b,o+h,none⟩)):=λa w X pos after g Y _=>by
 obtain ⟨gs,Z,-,h2⟩:=(T _ _ _ U).under;obtain ⟨fd,h3,h4,h5,j,h6,h7⟩:=h2 f h t V;have e:(Instr.fieldAt s (.pointer (some ⟨b,o,none⟩)) f).run P w = .ok (.pointer (some ⟨b,o+h,none⟩)) w:=by
  simp only [Instr.fieldAt,gE,AA Z,gw,h3,Instr.sureAddr,gP,fieldPlace,h5,h4];simp only [Vx h6,h7,if_false,gP,iC];by_cases N:h=0
  . subst N;simp
  . simp [N]
 simp [execOp,Y.ev O,e]
def Cq {s f b o sz:Nat} (T:TabOk P tab) (M:ev l x=some (.pointer (some ⟨b,o,none⟩)))
 (N:Az tab s=some (.struct h,sz)) (O:h[f]? = some (0,e)):Bh P n l S (.fieldAddr s x f) ty (.pointer (some ⟨b,o,none⟩)):=AZ T M N O
def Sk.agg:Sk->Bool
 | .struct _ | .array _ _=>true
 | _=>false
def Co {sz:Nat} (h:TyOk P t s sz) (w:wD):(isAgg t).run P w = .ok s.agg w:=by
 have:=h.under;cases s with
 | struct M=>obtain ⟨N,G,-⟩:=this;simp [isAgg,AA G,gw,Sk.agg]
 | func=>obtain ⟨_,_,_,G⟩:=this;simp [isAgg,AA G,gw,Sk.agg]
 | iface=>obtain ⟨_,G⟩:=this;simp [isAgg,AA G,gw,Sk.agg]
 | _=>simp [isAgg,AA this,gw,Sk.agg]
def Ap {sz:Nat} (T:TabOk P tab) (h:Az tab t=some (s,sz)) (G:s.agg=false) (M:ev l x=some (.pointer (some p)))
 (N:∀w,S w->w.cell? p=some v):Bh P n l S (.load t x) ty v:=λa w O pos after g U V=>by
 have e:(Instr.loadAt t (.pointer (some p))).run P w = .ok v w:=by
  simp only [Instr.loadAt,Instr.sureAddr,gE,gP,gw,loadVar,Co (T _ _ _ h),G];simp [load,Sem.run,N w V]
 simp [execOp,U.ev M,e]
def Row (w:wD) (p:Addr) (vs:lV):Prop:= ∀i v,vs[i]? = some v->w.cell? (p.add i)=some v
def Cr (h:Row w p vs):(loadCells p vs.length).run P w = .ok vs.toArray w:=
 run_loadCells_list w p vs h
def H7 {sz:Nat} (T:TabOk P tab) (h:Az tab t=some (s,sz)) (G:s.agg=true) (M:ev l x=some (.pointer (some p)))
 (N:vs.length=sz) (O:∀w,S w->Row w p vs):Bh P n l S (.load t x) ty (.agg vs.toArray):=λa w U pos after g V X=>by
 have e:(Instr.loadAt t (.pointer (some p))).run P w = .ok (.agg vs.toArray) w:=by
  simp only [Instr.loadAt,Instr.sureAddr,gE,gP,gw,loadVar,Co (T _ _ _ h),G,if_true,B3 (T _ _ _ h)];rw [<-N,Cr (O w X)]
 simp [execOp,V.ev M,e]
def BE {sz:Nat} (T:TabOk P tab) (h:Az tab t=some (s,sz)) (G:s.agg=true) (M:ev l x=some (.pointer (some p)))
 (N:∀w,S w->Row w p vs) (O:vs.length=sz):Bh P n l S (.load t x) ty (.agg vs.toArray):=H7 T h G M O N
def AC {i:Operand} {sz h b o len cap:Nat} (T:TabOk P tab) (N:Az tab t=some (.slice e,sz)) (O:Az tab e=some (s,h))
 (U:ev l x=some (.slice (some ⟨b,o,none⟩) len cap)) (V:ev l i=some (.int k j)) (X:0<=j) (Y:j<len):Bh P n l S (.indexAddr t x i) ty (.pointer (some ⟨b,o+j.toNat*h,none⟩)):=λa w Z pos after g G _=>by
 have hu:P.underlying t=some (.slice e):=(T _ _ _ N).under;have e:(Instr.indexAt t (.slice (some ⟨b,o,none⟩) len cap) (.int k j)).run P w = .ok (.pointer (some ⟨b,o+j.toNat*h,none⟩)) w:=by
  simp only [Instr.indexAt,asIntOf,gE,gP,gw,AA hu];simp only [X,Y,and_self,if_true,gE,B3 (T _ _ _ O),gw,gP,iC];by_cases M:j.toNat*h=0
  . simp [M]
  . simp [M]
 simp [execOp,G.ev U,G.ev V,e]
def Bs {op:BinOp} {y:Operand} {h:IntKind} {a b:Int}:(eqGuard op t x y (.int k a) (.int h b)).run P w = .ok () w:=by
 unfold eqGuard;cases op<;>simp
def Dg {op:BinOp} {y:Operand} {a b:ByteArray}:(eqGuard op t x y (.string a) (.string b)).run P w = .ok () w:=by
 unfold eqGuard;cases op<;>simp
def FG {α:Type} [BEq α] [LawfulBEq α] [DecidableEq α] (a b:α):(a==b)=decide (a=b):=by
 rw [Bool.eq_iff_iff];simp
section AX
variable {x y:Operand} {t t':Nat} {k:IntKind} {a b c:Int}
def Ia (G:ev l x=some (.int k a)) (M:ev l y=some (.int k b)) (N:k.wrap (a+b)=c):Bh P n l S (.binOp .add t x y t') ty (.int k c):=λa w O pos after g h _=>by
 subst N;simp [execOp,h.ev G,h.ev M,Bs,binOp,Op.intArith]
def AK (G:ev l x=some (.int k a)) (M:ev l y=some (.int k b)) (N:k.wrap (a-b)=c):Bh P n l S (.binOp .sub t x y t') ty (.int k c):=λa w O pos after g h _=>by
 subst N;simp [execOp,h.ev G,h.ev M,Bs,binOp,Op.intArith]
def Ib (G:ev l x=some (.int k a)) (M:ev l y=some (.int k b)) (N:k.wrap (a*b)=c):Bh P n l S (.binOp .mul t x y t') ty (.int k c):=λa w O pos after g h _=>by
 subst N;simp [execOp,h.ev G,h.ev M,Bs,binOp,Op.intArith]
def X6 (G:ev l x=some (.int k a)) (M:ev l y=some (.int k b)):Bh P n l S (.binOp .eql t x y t') ty (.bool (decide (a=b))):=λa w N pos after g h _=>by
 simp [execOp,h.ev G,h.ev M,Bs,binOp,Op.intCmp,FG]
def X8 (G:ev l x=some (.int k a)) (M:ev l y=some (.int k b)):Bh P n l S (.binOp .neq t x y t') ty (.bool (decide (a≠b))):=λa w N pos after g h _=>by
 simp [execOp,h.ev G,h.ev M,Bs,binOp,Op.intCmp,bne,FG]
def Ya (G:ev l x=some (.int k a)) (M:ev l y=some (.int k b)):Bh P n l S (.binOp .lss t x y t') ty (.bool (decide (a<b))):=λa w N pos after g h _=>by
 simp [execOp,h.ev G,h.ev M,Bs,binOp,Op.intCmp]
def Yb (G:ev l x=some (.int k a)) (M:ev l y=some (.int k b)):Bh P n l S (.binOp .leq t x y t') ty (.bool (decide (a<=b))):=λa w N pos after g h _=>by
 simp [execOp,h.ev G,h.ev M,Bs,binOp,Op.intCmp]
def NY (G:ev l x=some (.int k a)) (M:ev l y=some (.int k b)):Bh P n l S (.binOp .gtr t x y t') ty (.bool (decide (b<a))):=λa w N pos after g h _=>by
 simp [execOp,h.ev G,h.ev M,Bs,binOp,Op.intCmp]
def Yc (G:ev l x=some (.int k a)) (M:ev l y=some (.int k b)):Bh P n l S (.binOp .geq t x y t') ty (.bool (decide (b<=a))):=λa w N pos after g h _=>by
 simp [execOp,h.ev G,h.ev M,Bs,binOp,Op.intCmp]
end AX
def Yd (a b:lB):(⟨a.toArray⟩:ByteArray)++⟨b.toArray⟩=⟨(a++b).toArray⟩:=by
 apply ByteArray.ext;simp
def Fh (a:lB):(⟨a.toArray⟩:ByteArray).toList=a:=by
 simp [ByteArray.toList_eq]
section strs
variable {x y:Operand} {t t':Nat} {a b:lB}
def Vy (M:ev l x=some (str a)) (N:ev l y=some (str b)) (X:a.length+b.length<=9223372036854775807):Bh P n l S (.binOp .add t x y t') ty (str (a++b)):=λ_ w O pos after g G _=>by
 have h:¬IntKind.i64.max<(((⟨a.toArray⟩:ByteArray).size+(⟨b.toArray⟩:ByteArray).size:Nat):Int):=by
  have U:(⟨a.toArray⟩:ByteArray).size=a.length:=by simp [ByteArray.size]
  have V:(⟨b.toArray⟩:ByteArray).size=b.length:=by simp [ByteArray.size]
  rw [U,V];simp only [IntKind.max,IntKind.signed,IntKind.bits];omega
 simp only [execOp,G.ev M,G.ev N,gE,Dg,gw,binOp,Op.stringOp,gt_iff_lt,AB h,gP,Yd]
def Vz (G:ev l x=some (str a)) (M:ev l y=some (str b)):Bh P n l S (.binOp .eql t x y t') ty (.bool (decide (a=b))):=λ_ w N pos after g h _=>by
 simp only [execOp,h.ev G,h.ev M,gE,Dg,gw,binOp,Op.stringOp,gP,Fh,FG]
def VA (M:ev l x=some (str a)) (N:ev l y=some (str b)):Bh P n l S (.binOp .neq t x y t') ty (.bool (decide (a≠b))):=λ_ w O pos after g G _=>by
 simp only [execOp,G.ev M,G.ev N,gE,Dg,gw,binOp,Op.stringOp,gP,Fh];congr 3;by_cases h:a=b<;>simp [h]
def Ye (h:ev l x=some (.bool q)):Bh P n l S (.unOp .not t x) ty (.bool !q):=λ_ w G pos after g M _=>by
 simp [execOp,M.ev h,Op.unary]
def BM {c:Operand} {u:Value} (G:ev l c=some (.bool q)) (M:ev l x=some u) (N:q=true):Bh P n l S (.pick c x y) ty u:=λ_ w O pos after g h _=>by
 subst N;simp [execOp,h.ev G,h.ev M,asBool]
def Bm {c:Operand} (G:ev l c=some (.bool q)) (M:ev l y=some v) (N:q=false):Bh P n l S (.pick c x y) ty v:=λ_ w O pos after g h _=>by
 subst N;simp [execOp,h.ev G,h.ev M,asBool]
def E4 {c:Operand} {p:Prop} [Decidable p] {u:Value} (h:ev l c=some (.bool (decide p))) (G:ev l x=some u) (M:p):Bh P n l S (.pick c x y) ty u:=BM h G (decide_eq_true M)
def FH {c:Operand} {p:Prop} [Decidable p] (h:ev l c=some (.bool (decide p))) (G:ev l y=some v) (M:¬p):Bh P n l S (.pick c x y) ty v:=Bm h G (decide_eq_false M)
def O4 {i:Nat} (h:ev l x=some (.tuple vs.toArray)) (G:vs[i]? = some v):Bh P n l S (.extract x i) ty v:=λ_ w M pos after g N _=>by
 simp [execOp,N.ev h,Instr.extract,G]
def O5 (T:TabOk P tab) {sz:Nat} {pt:Bool} (h:Az tab t=some (.str,sz)) (G:ev l x=some (str a)):Bh P n l S (.call ⟨.builtin .len,#[x],#[t]⟩) ty (.int .i64 a.length):=λ_ w M pos after g N _=>by
 have O:P.underlying t=some .string:=(T _ _ _ h).under;have U:(⟨a.toArray⟩:ByteArray).size=a.length:=by simp [ByteArray.size]
 simp [execOp,resolve,invoke,builtin,Builtin.len_,N.ev G,AA O,gw,goInt,U]
def DL (T:TabOk P tab) {sz:Nat} {p:oA} {len cap:Nat} (h:Az tab t=some (.slice e,sz)) (G:ev l x=some (.slice p len cap)):Bh P n l S (.call ⟨.builtin .len,#[x],#[t]⟩) ty (.int .i64 len):=λ_ w M pos after g N _=>by
 have O:P.underlying t=some (.slice e):=(T _ _ _ h).under;simp [execOp,resolve,invoke,builtin,Builtin.len_,N.ev G,AA O,gw,goInt]
end strs
end pur
def Blk (w:wD) (b:Nat) (vs:lV):Prop:= ∃ty,w.heap[b]? = some (.cells vs.toArray ty (0,0))
def Blk.lt {b:Nat} (h:Blk w b vs):b<w.heap.size:=by
 obtain ⟨ty,h⟩:=h;rcases gK b w.heap.size with G|G
 . exact G
 . rw [iv G] at h;cases h
def Blk.cell {w:wD} {b i:Nat} {vs:lV} {v:Value} (h:Blk w b vs) (G:vs[i]? = some v):w.cell? ⟨b,i,none⟩=some v:=by
 obtain ⟨ty,h⟩:=h;simp [World.cell?,h,G]
def Blk.row {b:Nat} (h:Blk w b vs):Row w ⟨b,0,none⟩ vs:=λi v G=>by
 have:(⟨b,0,none⟩:Addr).add i=⟨b,i,none⟩:=by unfold iC;by_cases M:i=0<;>simp [M]
 rw [this];exact h.cell G
def Blk.free {b o:Nat} (h:Blk w b vs):w.frozen? ⟨b,o,none⟩=false:=by
 obtain ⟨ty,h⟩:=h;simp [World.frozen?,h]
def Blk.ext {b:Nat} (h:Blk w b vs) (e:Ext w w'):Blk w' b vs:=by
 have G:=h.lt;obtain ⟨ty,h⟩:=h;exact ⟨ty,by rw [e.block G];exact h⟩
def Blk.fr {b:Nat} (h:Blk w b vs) (e:Fr S w w') (G:¬S b):Blk w' b vs:=by
 have M:=h.lt;obtain ⟨ty,h⟩:=h;exact ⟨ty,by rw [e.block b M G];exact h⟩
def Blk.set {w:wD} {b i:Nat} {vs:lV} (h:Blk w b vs) (v:Value):Blk (w.setCell ⟨b,i,none⟩ v) b (vs.set i v):=by
 obtain ⟨ty,h⟩:=h;refine ⟨ty,?_⟩;simp [World.setCell,Array.getElem?_modify,h]
def Row.at {w:wD} {b o i:Nat} {vs:lV} {v:Value} (h:Row w ⟨b,o,none⟩ vs) (G:vs[i]? = some v):w.cell? ⟨b,o+i,none⟩=some v:=by
 have:=h i v G;have e:(⟨b,o,none⟩:Addr).add i=⟨b,o+i,none⟩:=by unfold iC;by_cases M:i=0<;>simp [M]
 rwa [e] at this
def Row.at0 {b o:Nat} (h:Row w ⟨b,o,none⟩ vs) (G:vs[0]? = some v):w.cell? ⟨b,o,none⟩=some v:=h.at G
def TN (p:Addr) (i:Nat):(p.add i).block=p.block:=by unfold iC;split<;>rfl
def TO (h:w.cell? p=some v):p.spot=none:=by
 unfold World.cell? at h;split at h
 . cases hs:p.spot with
   | none=>rfl
   | some q=>simp [hs] at h
 . cases h
def Row.ext (h:Row w p vs) (e:Ext w w'):Row w' p vs:=λi v M=>by
 have G:=h i v M;have N:=Cg G;rw [Below.cell e N];exact G
def Row.fr (h:Row w p vs) (e:Fr S w w') (M:¬S p.block):Row w' p vs:=λi v N=>by
 have G:=h i v N;have O:=Cg G;rw [World.cell?_of_block (w:=w) (e.block _ O (by rw [TN];exact M))];exact G
structure New (w w1:wD) (b:Nat) (vs:lV):Prop where
 pos:b=w.heap.size
 blk:Blk w1 b vs
 ext:Ext w w1
 size:w1.heap.size=b+1
def El (w:wD) (vs:lV) (ty:TypeId):New w (w.alloc (.cells vs.toArray ty (0,0))) w.heap.size vs:=
 ⟨rfl,⟨ty,by show (w.heap.push _)[w.heap.size]? = _;simp⟩,(Ext.refl w).alloc _,by show (w.heap.push _).size=_;simp⟩
def A8:lV->Nat->lV->lV
 | vs,_,[]=>vs
 | vs,o,u::r=>A8 (vs.set o u) (o+1) r
structure Put (w w1:wD) (b:Nat) (vs:lV):Prop where
 blk:Blk w1 b vs
 fr:Fr (· = b) w w1
 size:w1.heap.size=w.heap.size
def Value.one:Value->Bool
 | .agg _ | .tuple _=>false
 | _=>true
def M7 {b o:Nat} (h:Blk w b vs) (G:o<vs.length) (M:Value.one v=true) {α:Type} (k:Sem α) :
 (Sem.store .plain ⟨b,o,none⟩ v k).run P w=k.run P (w.setCell ⟨b,o,none⟩ v):=by
 have N:=h.cell (gm G);have O:=h.free (o:=o);cases v<;>first|(simp [Value.one] at M;done)|simp [Sem.run,N,O]
def Fi {P:Program}:∀(us:lV) (w:wD) (b o i:Nat) (vs:lV),Blk w b vs->o+i+us.length<=vs.length->us.all Value.one=true ->
 ∃w1,(storeCells ⟨b,o,none⟩ us i).run P w = .ok () w1/\Put w w1 b (A8 vs (o+i) us)
 | [],w,b,o,i,vs,h,_,_=>⟨w,rfl,h,Fr.refl _ _,rfl⟩
 | u::r,w,b,o,i,vs,h,N,G=>by
  simp only [gD] at N;simp only [List.all_cons,gu] at G;have O:(⟨b,o,none⟩:Addr).add i=⟨b,o+i,none⟩:=by unfold iC;by_cases U:i=0<;>simp [U]
  have e:(storeCells ⟨b,o,none⟩ (u::r) i).run P w=(storeCells ⟨b,o,none⟩ r (i+1)).run P (w.setCell ⟨b,o+i,none⟩ u):=by
   simp only [storeCells,store,O,bind,Sem.bind];exact M7 h (by omega) G.1 _
  obtain ⟨w1,V,M⟩:=Fi (P:=P) r _ b o (i+1) _ (h.set (i:=o+i) u) (by simp;omega) G.2;refine ⟨w1,by rw [e,V],M.blk,((Fr.refl (· = b) w).setCell ⟨b,o+i,none⟩ u (gq rfl)).trans M.fr,?_⟩;rw [M.size];simp [World.setCell]
def Bc {y:Nat->Option Bool} (h:o.guard=none):Region.wanted o y=true:=by unfold Region.wanted;rw [h]
section seqs
variable {P:Program} {n:Nat} {ops:Array Oper} {Q:Exit->Act->wD->Prop} {rest:List Oper} {l:Sl} {w:wD} {tab:Tab}
 {d:Nat} {ty:TypeId} {pos:String} {after:Array Edge}
def Ak (h:QW n Q .normal l w):LW P n ops Q [] l w:=h
def Cy (G:Bh P n l (λx=>x=w) op ty v) (M:gM d n=true) (k:LW P n ops Q rest ((d,v)::l) w) :
 LW P n ops Q (⟨some d,op,ty,pos,after,none⟩::rest) l w:=λa h=>by
 unfold wpList;rw [AQ (Bc rfl)];left;unfold iB;rw [G a w _ _ _ _ h rfl];exact k _ (h.put M v)
def BC (ops:Array Oper) (j:Nat):Option Nat:=(ops.toList[j]?).bind (·.dst)
def Ga {n:Nat} {l:Sl} {a:Act} (M:Env n l a) {j:Nat} {h b:Bool} (O:o.guard=some (j,h)) (U:BC c j=some e) (V:gM e n=true) (X:look l e=some (.bool b)) :
 Region.wanted o (yielded c a.tmps)=(b==h):=by
 have N:=M.has e _ X;have G:e<a.tmps.size:=by rw [M.size];exact gS V
 have Y:a.tmps[e]? = some (.bool b):=by
  rw [Array.getD_eq_getD_getElem?,Array.getElem?_eq_getElem G] at N;rw [Array.getElem?_eq_getElem G];simpa using N
 have Z:(c[j]?).bind (·.dst)=some e:=by simpa [BC] using U
 unfold Region.wanted yielded;simp only [O,Z,Option.bind_some,Y];cases b<;>cases h<;>rfl
def Be {j:Nat} {h b:Bool} (M:BC ops j=some e) (N:gM e n=true) (O:look l e=some (.bool b)) (U:(b==h)=false) (V:gM d n=true)
 (k:LW P n ops Q rest ((d,undef)::l) w):LW P n ops Q (⟨some d,op,ty,pos,after,some (j,h)⟩::rest) l w:=λa G=>by
 unfold wpList;rw [Ga G rfl M N O,U];exact k _ (G.put V undef)
def A1 {j:Nat} {h b:Bool} (M:BC ops j=some e) (N:gM e n=true) (O:look l e=some (.bool b)) (U:(b==h)=true)
 (k:LW P n ops Q (⟨some d,op,ty,pos,after,none⟩::rest) l w):LW P n ops Q (⟨some d,op,ty,pos,after,some (j,h)⟩::rest) l w:=λa G=>by
 have:=k a G;unfold wpList at this ⊢;rw [AQ (by rw [Ga G rfl M N O,U])];rw [AQ (Bc rfl)] at this;exact this
section guards
variable {op:Op} {j dj:Nat} {p:Prop} [Decidable p]
def Bg (h:BC ops j=some dj) (G:gM dj n=true) (M:look l dj=some (.bool (decide p))) (N:¬p)
 (k:LW P n ops Q (⟨some d,op,ty,pos,after,none⟩::rest) l w):LW P n ops Q (⟨some d,op,ty,pos,after,some (j,false)⟩::rest) l w:=A1 h G M (by simp [N]) k
def By (h:BC ops j=some dj) (G:gM dj n=true) (M:look l dj=some (.bool (decide p))) (N:p) (O:gM d n=true)
 (k:LW P n ops Q rest ((d,undef)::l) w):LW P n ops Q (⟨some d,op,ty,pos,after,some (j,false)⟩::rest) l w:=Be h G M (by simp [N]) O k
end guards
def BD (P:Program) (n:Nat) (l:Sl) (op:Op) (ty:TypeId) (w:wD) (K:Option Value->wD->Prop):Prop:=
 ∀a dst pos after g (next:Act->wD->Prop) (Q:Exit->Act->wD->Prop),Env n l a->(∀v w',K (some v) w'->next (a.put dst v) w')->(∀w',K none w'->next (a.put dst undef) w')->(⟨dst,op,ty,pos,after,g⟩:Oper).wp P a w next Q
def Ax {K:Option Value->wD->Prop} (M:BD P n l op ty w K) (N:gM d n=true) (k:∀v w1,K (some v) w1->LW P n ops Q rest ((d,v)::l) w1) (O:∀w1,¬K none w1) :
 LW P n ops Q (⟨some d,op,ty,pos,after,none⟩::rest) l w:=λa G=>by
 unfold wpList;rw [AQ (Bc rfl)];left;exact M a _ _ _ _ _ _ G (λv w1 U=>k v w1 U _ (G.put N v)) (λw1 h=>absurd h (O w1))
def A2 {K:Option Value->wD->Prop} (M:BD P n l op ty w K) (k:∀v w1,K v w1->LW P n ops Q rest l w1) :
 LW P n ops Q (⟨none,op,ty,pos,after,none⟩::rest) l w:=λa G=>by
 unfold wpList;rw [AQ (Bc rfl)];left;exact M a _ _ _ _ _ _ G (λv w1 N=>k _ w1 N _ G) (λw1 h=>k _ w1 h _ G)
end seqs
section does
variable {P:Program} {n:Nat} {l:Sl} {w:wD} {tab:Tab} {ty:TypeId}
def ZN (w:wD) (vs:lV):Option Value->wD->Prop
 | some v,w1=> ∃b,v = .pointer (some ⟨b,0,none⟩)/\New w w1 b vs
 | none,_=>False
def G5 (hx:ev l x=some v) (hv:v.cells=vs.toArray):BD P n l (.box t x) ty w (ZN w vs):=λa dst pos after g next Q ha hn _=>by
 have e:(execOp a.eval ⟨dst,.box t x,ty,pos,after,g⟩).run P w = .ok (.value (.pointer (some ⟨w.heap.size,0,none⟩))) (w.alloc (.cells vs.toArray t (0,0))):=by
  simp [execOp,ha.ev hx,Instr.box,newVar,newRow,newObj,Sem.run,hv,bind,Sem.bind,pure]
 unfold iB;rw [e];exact hn _ _ ⟨_,rfl,El _ _ _⟩
abbrev Ei:=List (Nat×lV)
def Ch (P:Program):Ei->Prop
 | []=>True
 | p::r=>((P.info? p.1).bind (·.zero)).map Value.cells=some p.2.toArray/\Ch P r
def Cz:Ei->Nat->Option lV
 | [],_=>none
 | p::r,t=>match iA p.1 t with
  | true=>some p.2
  | false=>Cz r t
def EL {zt:Ei} (h:Ch P zt) (G:Cz zt t=some vs):∃i v,P.info? t=some i/\i.zero=some v/\v.cells=vs.toArray:=by
 induction zt with
 | nil=>simp [Cz] at G
 | cons p r N=>
  simp only [Cz] at G;split at G
  . rename_i O;have:=ip O;simp only [gy] at G;subst G this;have M:=h.1;cases hi:P.info? p.1 with
    | none=>rw [hi] at M;simp at M
    | some i=>
     rw [hi] at M;cases hz:i.zero with
     | none=>simp [hz] at M
     | some v=>exact ⟨i,v,rfl,hz,by simpa [hz] using M⟩
  . exact N h.2 G
def Bb {zt:Ei} (Z:Ch P zt) (hz:Cz zt t=some vs):BD P n l (.alloc t) ty w (ZN w vs):=λa dst pos after g next Q ha hn _=>by
 obtain ⟨i,v,h1,h2,h3⟩:=EL Z hz;have e:(execOp a.eval ⟨dst,.alloc t,ty,pos,after,g⟩).run P w = .ok (.value (.pointer (some ⟨w.heap.size,0,none⟩))) (w.alloc (.cells vs.toArray t (0,0))):=by
  simp [execOp,Instr.alloc,zeroValue,typeInfo,program,newVar,newRow,newObj,Sem.run,h1,h2,h3,bind,Sem.bind,pure]
 unfold iB;rw [e];exact hn _ _ ⟨_,rfl,El _ _ _⟩
def cV (w:wD) (b:Nat) (vs:lV):Option Value->wD->Prop
 | none,w1=>Put w w1 b vs
 | some _,_=>False
def Do {y:Operand} {sz b o:Nat} {us:lV} (T:TabOk P tab) (ht:Az tab t=some (s,sz)) (hx:ev l x=some (.pointer (some ⟨b,o,none⟩))) (hy:ev l y=some v)
 (hv:v.cells=us.toArray) (hl:us.length=sz) (h1:us.all Value.one=true) (hb:Blk w b vs) (ho:iy (o+us.length) vs.length=true):BD P n l (.store t x y) ty w (cV w b (A8 vs o us)):=λa dst pos after g next Q ha _ hn=>by
 obtain ⟨w1,e1,e2⟩:=Fi (P:=P) us w b o 0 vs hb (by simpa using ho) h1;have e:(execOp a.eval ⟨dst,.store t x y,ty,pos,after,g⟩).run P w = .ok .skip w1:=by
  have hcs:v.cells.toList=us:=by rw [hv]
  have hsz:v.cells.size=sz:=by rw [hv];simpa using hl
  simp only [execOp,ha.ev hx,ha.ev hy,Instr.storeAt,Instr.sureAddr,gE,gP,gw,storeVar,B3 (T _ _ _ ht),hsz,hcs,e1];simp only [ne_eq,not_true,if_false,gE,gP,gw,e1]
 unfold iB;rw [e];exact hn _ e2
def BT (P:Program) (f:FuncId):Bool:=match P.funcs[f]? with
 | some fn=> !(fn.name == "runtime.NumGoroutine")&&fn.body.isSome
 | none=>false
def Dy {f:FuncId} {args:Array Value} (G:BT P f=true) (w:wD):(callFunc f args).run P w = .ok (.enter f args) w:=by
 unfold BT at G
 split at G
 . rename_i fn M
   simp only [gu,Bool.not_eq_true',Option.isSome_iff_ne_none] at G
   have O:fn.body.isNone=false:=by cases h:fn.body<;>simp_all
   have N:fn.name ≠ "runtime.NumGoroutine" := by simpa using G.1
   simp [callFunc,program,Sem.run,M,bind,Sem.bind,N,G.2,pure]
 . cases G
def ZO (R:Ending->wD->Prop):Option Value->wD->Prop
 | some v,w1=>R (.returned v) w1
 | none,_=>False
def AR {f:FuncId} {xs:List Operand} {tys:Array TypeId} {R:Ending->wD->Prop} (hb:BT P f=true) (hxs:evs l xs=some vs) (C:Calls P f vs.toArray w R)
 (hR:∀e w1,R e w1 -> ∃v,e = .returned v):BD P n l (.call ⟨.value (.func f),xs.toArray,tys⟩) ty w (ZO R):=λa dst pos after g next Q ha hn _=>by
 have hargs:xs.map a.eval=vs:=ha.evs hxs;have e:(execOp a.eval ⟨dst,.call ⟨.value (.func f),xs.toArray,tys⟩,ty,pos,after,g⟩).run P w = .ok (.enter f vs.toArray) w:=by
  simp only [execOp,resolve,Act.eval,Deferred.ofValue,gE,gP,gw,invoke];rw [Dy hb];simp [<-hargs]
 unfold iB;rw [e];refine ir C λe w1 h=>?_
 obtain ⟨v,rfl⟩:=hR e w1 h;exact hn v w1 h
def A9 {f:FuncId} {fi ca:lV} {xs:List Operand} {tys:Array TypeId} {R:Ending->wD->Prop} (hb:BT P f=true) (hx:ev l x=some (.func (.func f) fi.toArray ca.toArray)) (hxs:evs l xs=some vs) (C:Calls P f (fi++vs++ca).toArray w R)
 (hR:∀e w1,R e w1 -> ∃v,e = .returned v):BD P n l (.call ⟨.value x,xs.toArray,tys⟩) ty w (ZO R):=λa dst pos after g next Q ha hn _=>by
 have hargs:xs.map a.eval=vs:=ha.evs hxs;have e:(execOp a.eval ⟨dst,.call ⟨.value x,xs.toArray,tys⟩,ty,pos,after,g⟩).run P w = .ok (.enter f (fi++vs++ca).toArray) w:=by
  simp only [execOp,resolve,ha.ev hx,Deferred.ofValue,gE,gP,gw,invoke];rw [Dy hb];simp [<-hargs]
 unfold iB;rw [e];refine ir C λe w1 h=>?_
 obtain ⟨v,rfl⟩:=hR e w1 h;exact hn v w1 h
end does
inductive Sch where
 | done
 | pure (i:Nat) (r:Sch)
 | fork (i:Nat) (x r:Sch)
 | none
def HW (P:Program) (ops:Array Oper) (Q:Exit->Act->wD->Prop) (S:wD->Prop):Sch->Act->wD->Prop
 | .done,a,w=>Q .normal a w
 | .pure i r,a,w=> ∃o v,ops.toList[i]? = some o/\YieldsIf P ops S o v a/\HW P ops Q S r (a.put o.dst v) w
 | .fork i x r,a,w=>wpOp P ops Q i (λa' w'=>S w'/\HW P ops Q S x a' w') a w/\HW P ops Q S r a w
 | .none,_,_=>True
def C5 (Q:Exit->Act->wD->Prop):Prop:= ∀d v c a w,Q (.panic c) (Act.put a d v) w->Q (.panic c) a w
def Ag {fn:Func} {R:Ending->wD->Prop}:C5 (bodyPost P fn R):=λd v c a w h=>by
 cases d<;>exact h
def Aa {K:Act->wD->Prop} (h:C5 Q):C5 (Exit.then K Q):=h
def Ae {i:Nat} (h:C5 Q):C5 (Exit.inBlock i Q):=h
def DW (P:Program) (n:Nat) (ops:Array Oper) (Q:Exit->Act->wD->Prop) (S:wD->Prop) (s:Sch) (l:Sl) (w:wD):Prop:= ∀a,Env n l a->HW P ops Q S s a w
section draws
variable {P:Program} {n:Nat} {ops:Array Oper} {Q:Exit->Act->wD->Prop} {S:wD->Prop} {l:Sl} {w:wD}
 {d i:Nat} {ty:TypeId} {pos:String} {after:Array Edge} {r x:Sch}
end draws
def fO {c:Operand} {x y:Code} (h:CW P n (.cond c x y) Q l w):CW P n (.cond c x y) Q l w:=h
def fP {d:Nat} {ty:TypeId} {pos:String} {after:Array Edge} {rest:List Oper} (h:LW P n c Q (⟨some d,op,ty,pos,after,none⟩::rest) l w):LW P n c Q (⟨some d,op,ty,pos,after,none⟩::rest) l w:=h
def eO {d:Nat} {ty:TypeId} {pos:String} {after:Array Edge} {g:Nat×Bool} {rest:List Oper} (h:LW P n c Q (⟨some d,op,ty,pos,after,some g⟩::rest) l w):LW P n c Q (⟨some d,op,ty,pos,after,some g⟩::rest) l w:=h
attribute [irreducible] CW LW QW DW Bh BD
open Go.Proofs
variable {b sz t o i:Nat} {x:Operand} {v:Value} {vs zs:lV} {w w' w0:wD} {s:Sk} {S:wD->Prop} {R:Ending->wD->Prop} {p:Prop} {ps:List (Nat×Operand)} {T:nP} {xs:List Operand} {h:Bool} {O:List (Nat×Nat)} {ty:TypeId} {op:Op} {G:List Oper} {f:FuncId} {q:Addr} {m:Int} {oi:Oper} {fn:Func} {k:lB}
def tab:Tab:=[(1,.func,1),
 (2,.int .i64,1),
 (3,.int .i64,1),
 (4,.bool,1),
 (5,.int .u8,1),
 (6,.int .u8,1),
 (7,.struct [(0,2),(1,3),(2,4),(3,6)],4),
 (8,.struct [(0,2),(1,3),(2,4),(3,6)],4),
 (9,.str,1),
 (10,.str,1),
 (11,.str,1),
 (12,.int .u64,1),
 (14,.struct [(0,9),(1,12)],2),
 (15,.ptr 301,1),
 (16,.ptr 304,1),
 (17,.ptr 312,1),
 (19,.struct [(0,17)],1),
 (20,.iface,1),
 (23,.slice 36,1),
 (24,.slice 5,1),
 (25,.slice 77,1),
 (26,.slice 116,1),
 (27,.slice 29,1),
 (29,.struct [(0,5),(1,3),(2,9),(3,27)],4),
 (31,.struct [(0,25),(1,26),(2,29)],6),
 (33,.struct [(0,3),(1,3),(2,3)],3),
 (34,.struct [(0,3),(1,3),(2,3)],3),
 (36,.struct [(0,9),(1,3),(2,3),(3,34),(6,31)],12),
 (37,.ptr 80,1),
 (38,.int .i64,1),
 (40,.func,1),
 (41,.func,1),
 (42,.slice 43,1),
 (43,.slice 3,1),
 (44,.struct [(0,42),(1,43),(2,43)],3),
 (45,.struct [(0,42),(1,43),(2,43)],3),
 (47,.struct [(0,4),(1,3),(2,45),(5,38)],6),
 (52,.func,1),
 (53,.slice 9,1),
 (57,.func,1),
 (58,.func,1),
 (59,.func,1),
 (60,.slice 65,1),
 (61,.slice 111,1),
 (62,.struct [(0,43),(1,61)],2),
 (63,.struct [(0,43),(1,61)],2),
 (65,.struct [(0,9),(1,9),(2,31)],8),
 (66,.func,1),
 (77,.struct [(0,9),(1,5),(2,3)],3),
 (78,.map 9 84,1),
 (80,.struct [(0,23),(1,78)],2),
 (83,.struct [(0,3),(1,4)],2),
 (84,.map 9 83,1),
 (88,.func,1),
 (91,.func,1),
 (93,.func,1),
 (94,.func,1),
 (98,.func,1),
 (99,.func,1),
 (100,.func,1),
 (101,.func,1),
 (102,.func,1),
 (104,.struct [(0,45),(3,3),(4,38)],5),
 (105,.func,1),
 (107,.func,1),
 (108,.func,1),
 (109,.func,1),
 (110,.struct [(0,9),(1,3),(2,4)],3),
 (111,.struct [(0,9),(1,3),(2,4)],3),
 (112,.func,1),
 (114,.func,1),
 (115,.struct [(0,9),(1,25),(2,29)],6),
 (116,.struct [(0,9),(1,25),(2,29)],6),
 (117,.func,1),
 (119,.func,1),
 (120,.func,1),
 (121,.func,1),
 (122,.func,1),
 (123,.func,1),
 (124,.int .u64,1),
 (125,.func,1),
 (126,.slice 165,1),
 (128,.slice 140,1),
 (131,.slice 135,1),
 (135,.struct [(0,3),(1,3)],2),
 (138,.map 9 4,1),
 (140,.struct [(0,3),(1,43),(2,38),(3,9)],4),
 (142,.func,1),
 (143,.func,1),
 (152,.int .i64,1),
 (160,.int .u32,1),
 (162,.int .u64,1),
 (164,.func,1),
 (165,.struct [(0,3),(1,43),(2,38),(3,9)],4),
 (166,.func,1),
 (170,.func,1),
 (173,.array 3 3,3),
 (175,.func,1),
 (176,.func,1),
 (178,.func,1),
 (179,.func,1),
 (181,.ptr 232,1),
 (184,.ptr 186,1),
 (185,.struct [(0,31),(6,181),(7,3),(8,3),(9,43)],10),
 (186,.struct [(0,31),(6,181),(7,3),(8,3),(9,43)],10),
 (188,.ptr 191,1),
 (189,.slice 1,1),
 (191,.struct [(0,189),(1,4)],2),
 (200,.int .u64,1),
 (204,.ptr 3,1),
 (210,.func,1),
 (216,.func,1),
 (220,.func,1),
 (224,.ptr 254,1),
 (227,.slice 234,1),
 (229,.struct [(0,25),(1,227),(2,3)],3),
 (230,.slice 229,1),
 (232,.struct [(0,229),(3,230),(4,224)],5),
 (234,.ptr 236,1),
 (236,.struct [(0,43)],1),
 (240,.struct [(0,38)],1),
 (245,.ptr 200,1),
 (250,.func,1),
 (254,.struct [(0,43),(1,43)],2),
 (255,.ptr 229,1),
 (270,.slice 164,1),
 (272,.struct [(0,29),(4,3),(5,4)],6),
 (273,.func,1),
 (281,.slice 272,1),
 (286,.func,1),
 (287,.func,1),
 (292,.ptr 43,1),
 (301,.struct [(0,17),(1,17),(2,17),(3,9)],4),
 (305,.int .u8,1),
 (306,.int .u8,1),
 (307,.func,1),
 (308,.ptr 5,1),
 (309,.int .i32,1),
 (310,.int .i32,1),
 (312,.struct [(0,12),(1,12),(2,160),(3,305),(4,5),(5,5),(6,306),(7,307),(8,308),(9,309),(10,310)],11)]
def zt:Ei:=[(1,[.nilFunc]),
 (2,[.int .i64 0]),
 (3,[.int .i64 0]),
 (4,[.bool false]),
 (5,[.int .u8 0]),
 (6,[.int .u8 0]),
 (7,[.int .i64 0,.int .i64 0,.bool false,.int .u8 0]),
 (8,[.int .i64 0,.int .i64 0,.bool false,.int .u8 0]),
 (9,[.string ⟨#[]⟩]),
 (10,[.string ⟨#[]⟩]),
 (11,[.string ⟨#[]⟩]),
 (12,[.int .u64 0]),
 (14,[.string ⟨#[]⟩,.int .u64 0]),
 (15,[.pointer none]),
 (16,[.pointer none]),
 (17,[.pointer none]),
 (19,[.pointer none]),
 (20,[.nilIface]),
 (23,[.slice none 0 0]),
 (24,[.slice none 0 0]),
 (25,[.slice none 0 0]),
 (26,[.slice none 0 0]),
 (27,[.slice none 0 0]),
 (29,[.int .u8 0,.int .i64 0,.string ⟨#[]⟩,.slice none 0 0]),
 (31,[.slice none 0 0,.slice none 0 0,.int .u8 0,.int .i64 0,.string ⟨#[]⟩,.slice none 0 0]),
 (33,[.int .i64 0,.int .i64 0,.int .i64 0]),
 (34,[.int .i64 0,.int .i64 0,.int .i64 0]),
 (36,[.string ⟨#[]⟩,.int .i64 0,.int .i64 0,.int .i64 0,.int .i64 0,.int .i64 0,.slice none 0 0,.slice none 0 0,.int .u8 0,.int .i64 0,.string ⟨#[]⟩,.slice none 0 0]),
 (37,[.pointer none]),
 (38,[.int .i64 0]),
 (40,[.nilFunc]),
 (41,[.nilFunc]),
 (42,[.slice none 0 0]),
 (43,[.slice none 0 0]),
 (44,[.slice none 0 0,.slice none 0 0,.slice none 0 0]),
 (45,[.slice none 0 0,.slice none 0 0,.slice none 0 0]),
 (47,[.bool false,.int .i64 0,.slice none 0 0,.slice none 0 0,.slice none 0 0,.int .i64 0]),
 (52,[.nilFunc]),
 (53,[.slice none 0 0]),
 (57,[.nilFunc]),
 (58,[.nilFunc]),
 (59,[.nilFunc]),
 (60,[.slice none 0 0]),
 (61,[.slice none 0 0]),
 (62,[.slice none 0 0,.slice none 0 0]),
 (63,[.slice none 0 0,.slice none 0 0]),
 (65,[.string ⟨#[]⟩,.string ⟨#[]⟩,.slice none 0 0,.slice none 0 0,.int .u8 0,.int .i64 0,.string ⟨#[]⟩,.slice none 0 0]),
 (66,[.nilFunc]),
 (77,[.string ⟨#[]⟩,.int .u8 0,.int .i64 0]),
 (78,[.map none]),
 (80,[.slice none 0 0,.map none]),
 (83,[.int .i64 0,.bool false]),
 (84,[.map none]),
 (88,[.nilFunc]),
 (91,[.nilFunc]),
 (93,[.nilFunc]),
 (94,[.nilFunc]),
 (98,[.nilFunc]),
 (99,[.nilFunc]),
 (100,[.nilFunc]),
 (101,[.nilFunc]),
 (102,[.nilFunc]),
 (104,[.slice none 0 0,.slice none 0 0,.slice none 0 0,.int .i64 0,.int .i64 0]),
 (105,[.nilFunc]),
 (107,[.nilFunc]),
 (108,[.nilFunc]),
 (109,[.nilFunc]),
 (110,[.string ⟨#[]⟩,.int .i64 0,.bool false]),
 (111,[.string ⟨#[]⟩,.int .i64 0,.bool false]),
 (112,[.nilFunc]),
 (114,[.nilFunc]),
 (115,[.string ⟨#[]⟩,.slice none 0 0,.int .u8 0,.int .i64 0,.string ⟨#[]⟩,.slice none 0 0]),
 (116,[.string ⟨#[]⟩,.slice none 0 0,.int .u8 0,.int .i64 0,.string ⟨#[]⟩,.slice none 0 0]),
 (117,[.nilFunc]),
 (119,[.nilFunc]),
 (120,[.nilFunc]),
 (121,[.nilFunc]),
 (122,[.nilFunc]),
 (123,[.nilFunc]),
 (124,[.int .u64 0]),
 (125,[.nilFunc]),
 (126,[.slice none 0 0]),
 (128,[.slice none 0 0]),
 (131,[.slice none 0 0]),
 (135,[.int .i64 0,.int .i64 0]),
 (138,[.map none]),
 (140,[.int .i64 0,.slice none 0 0,.int .i64 0,.string ⟨#[]⟩]),
 (142,[.nilFunc]),
 (143,[.nilFunc]),
 (152,[.int .i64 0]),
 (160,[.int .u32 0]),
 (162,[.int .u64 0]),
 (164,[.nilFunc]),
 (165,[.int .i64 0,.slice none 0 0,.int .i64 0,.string ⟨#[]⟩]),
 (166,[.nilFunc]),
 (170,[.nilFunc]),
 (173,[.int .i64 0,.int .i64 0,.int .i64 0]),
 (175,[.nilFunc]),
 (176,[.nilFunc]),
 (178,[.nilFunc]),
 (179,[.nilFunc]),
 (181,[.pointer none]),
 (184,[.pointer none]),
 (185,[.slice none 0 0,.slice none 0 0,.int .u8 0,.int .i64 0,.string ⟨#[]⟩,.slice none 0 0,.pointer none,.int .i64 0,.int .i64 0,.slice none 0 0]),
 (186,[.slice none 0 0,.slice none 0 0,.int .u8 0,.int .i64 0,.string ⟨#[]⟩,.slice none 0 0,.pointer none,.int .i64 0,.int .i64 0,.slice none 0 0]),
 (188,[.pointer none]),
 (189,[.slice none 0 0]),
 (191,[.slice none 0 0,.bool false]),
 (200,[.int .u64 0]),
 (204,[.pointer none]),
 (210,[.nilFunc]),
 (216,[.nilFunc]),
 (220,[.nilFunc]),
 (224,[.pointer none]),
 (227,[.slice none 0 0]),
 (229,[.slice none 0 0,.slice none 0 0,.int .i64 0]),
 (230,[.slice none 0 0]),
 (232,[.slice none 0 0,.slice none 0 0,.int .i64 0,.slice none 0 0,.pointer none]),
 (234,[.pointer none]),
 (236,[.slice none 0 0]),
 (240,[.int .i64 0]),
 (245,[.pointer none]),
 (250,[.nilFunc]),
 (254,[.slice none 0 0,.slice none 0 0]),
 (255,[.pointer none]),
 (270,[.slice none 0 0]),
 (272,[.int .u8 0,.int .i64 0,.string ⟨#[]⟩,.slice none 0 0,.int .i64 0,.bool false]),
 (273,[.nilFunc]),
 (281,[.slice none 0 0]),
 (286,[.nilFunc]),
 (287,[.nilFunc]),
 (292,[.pointer none]),
 (301,[.pointer none,.pointer none,.pointer none,.string ⟨#[]⟩]),
 (305,[.int .u8 0]),
 (306,[.int .u8 0]),
 (307,[.nilFunc]),
 (308,[.pointer none]),
 (309,[.int .i32 0]),
 (310,[.int .i32 0]),
 (312,[.int .u64 0,.int .u64 0,.int .u32 0,.int .u8 0,.int .u8 0,.int .u8 0,.int .u8 0,.nilFunc,.pointer none,.int .i32 0,.int .i32 0])]
def Ac:TabOk prog tab:=TabOk.of_check (by kernel_rfl)
def Cs:Ch prog zt:=⟨by kernel_rfl,by kernel_rfl,by kernel_rfl,by kernel_rfl,by kernel_rfl,by kernel_rfl,by kernel_rfl,by kernel_rfl,by kernel_rfl,by kernel_rfl,by kernel_rfl,by kernel_rfl,by kernel_rfl,by kernel_rfl,by kernel_rfl,by kernel_rfl,by kernel_rfl,by kernel_rfl,by kernel_rfl,by kernel_rfl,by kernel_rfl,by kernel_rfl,by kernel_rfl,by kernel_rfl,by kernel_rfl,by kernel_rfl,by kernel_rfl,by kernel_rfl,by kernel_rfl,by kernel_rfl,by kernel_rfl,by kernel_rfl,by kernel_rfl,by kernel_rfl,by kernel_rfl,by kernel_rfl,by kernel_rfl,by kernel_rfl,by kernel_rfl,by kernel_rfl,by kernel_rfl,by kernel_rfl,by kernel_rfl,by kernel_rfl,by kernel_rfl,by kernel_rfl,by kernel_rfl,by kernel_rfl,by kernel_rfl,by kernel_rfl,by kernel_rfl,by kernel_rfl,by kernel_rfl,by kernel_rfl,by kernel_rfl,by kernel_rfl,by kernel_rfl,by kernel_rfl,by kernel_rfl,by kernel_rfl,by kernel_rfl,by kernel_rfl,by kernel_rfl,by kernel_rfl,by kernel_rfl,by kernel_rfl,by kernel_rfl,by kernel_rfl,by kernel_rfl,by kernel_rfl,by kernel_rfl,by kernel_rfl,by kernel_rfl,by kernel_rfl,by kernel_rfl,by kernel_rfl,by kernel_rfl,by kernel_rfl,by kernel_rfl,by kernel_rfl,by kernel_rfl,by kernel_rfl,by kernel_rfl,by kernel_rfl,by kernel_rfl,by kernel_rfl,by kernel_rfl,by kernel_rfl,by kernel_rfl,by kernel_rfl,by kernel_rfl,by kernel_rfl,by kernel_rfl,by kernel_rfl,by kernel_rfl,by kernel_rfl,by kernel_rfl,by kernel_rfl,by kernel_rfl,by kernel_rfl,by kernel_rfl,by kernel_rfl,by kernel_rfl,by kernel_rfl,by kernel_rfl,by kernel_rfl,by kernel_rfl,by kernel_rfl,by kernel_rfl,by kernel_rfl,by kernel_rfl,by kernel_rfl,by kernel_rfl,by kernel_rfl,by kernel_rfl,by kernel_rfl,by kernel_rfl,by kernel_rfl,by kernel_rfl,by kernel_rfl,by kernel_rfl,by kernel_rfl,by kernel_rfl,by kernel_rfl,by kernel_rfl,by kernel_rfl,by kernel_rfl,by kernel_rfl,by kernel_rfl,by kernel_rfl,by kernel_rfl,by kernel_rfl,by kernel_rfl,by kernel_rfl,by kernel_rfl,by kernel_rfl,by kernel_rfl,by kernel_rfl,by kernel_rfl,by kernel_rfl,trivial⟩
def mixed:prog.follows .mixedOrders=true:=by kernel_rfl
def New.put {us:lV} (h:New w w' b vs) (p:Put w' w0 b us):New w w0 b us:=
 ⟨h.pos,p.blk,⟨p.fr.os.trans (Below.os h.ext),p.fr.tape.trans (Below.tape h.ext),p.fr.output.trans (Below.output h.ext),Nat.le_trans h.ext.size p.fr.size,
  λk M=>(p.fr.block k (Nat.lt_of_lt_of_le M h.ext.size) (by have:=h.pos;omega)).trans (h.ext.block M)⟩,by rw [p.size,h.size]⟩
def Blk.put {c:Nat} {us:lV} (h:Blk w c us) (p:Put w w' b vs) (G:c≠b):Blk w' c us:=h.fr p.fr G
section seqs
variable {P:Program} {n:Nat} {ops:Array Oper} {Q:Exit->Act->wD->Prop} {rest:List Oper} {l:Sl} {w:wD} {tab:Tab}
 {d:Nat} {ty:TypeId} {pos:String} {after:Array Edge}
def Li (G:ev l x=some v) (M:v.cells=vs.toArray) (N:gM d n=true)
 (k:∀b w1,New w w1 b vs->LW P n ops Q rest ((d,.pointer (some ⟨b,0,none⟩))::l) w1):LW P n ops Q (⟨some d,.box t x,ty,pos,after,none⟩::rest) l w:=
 Ax (G5 G M) N (λ_ w1 ⟨b,h,hn⟩=>h▸k b w1 hn) (λ_ h=>h)
def G6 {zt:Ei} (Z:Ch P zt) (G:Cz zt t=some vs) (M:gM d n=true)
 (k:∀b w1,New w w1 b vs->LW P n ops Q rest ((d,.pointer (some ⟨b,0,none⟩))::l) w1):LW P n ops Q (⟨some d,.alloc t,ty,pos,after,none⟩::rest) l w:=
 Ax (Bb Z G) M (λ_ w1 ⟨b,h,hn⟩=>h▸k b w1 hn) (λ_ h=>h)
def Lj {y:Operand} {us:lV} (T:TabOk P tab) (G:Az tab t=some (s,sz)) (M:ev l x=some (.pointer (some ⟨b,o,none⟩))) (N:ev l y=some v)
 (O:v.cells=us.toArray) (U:us.length=sz) (V:us.all Value.one=true) (X:Blk w b vs) (Y:iy (o+us.length) vs.length=true)
 (k:∀w1,Put w w1 b (A8 vs o us)->LW P n ops Q rest l w1):LW P n ops Q (⟨none,.store t x y,ty,pos,after,none⟩::rest) l w:=
 A2 (Do T G M N O U V X Y) (λv w1 h=>by cases v with|none=>exact k w1 h|some _=>exact h.elim)
def I5 {y:Operand} {us:lV} (T:TabOk P tab) (N:Az tab t=some (s,sz)) (O:ev l x=some (.pointer (some ⟨b,0,none⟩))) (U:ev l y=some v)
 (V:v.cells=us.toArray) (X:us.length=sz) (Y:us.all Value.one=true) (G:New w0 w b vs) (M:us.length=vs.length)
 (k:∀w1,New w0 w1 b us->LW P n ops Q rest l w1):LW P n ops Q (⟨none,.store t x y,ty,pos,after,none⟩::rest) l w:=
 Lj T N O U V X Y G.blk (by simp [M]) (λw1 p=>k w1 (G.put (by
  have e:A8 vs 0 us=us:=by
   have key:∀(us vs pre:lV),us.length=vs.length->A8 (pre++vs) pre.length us=pre++us:=by
    intro us
    induction us with
    | nil=>intro vs pre h;cases vs with|nil=>simp [A8]|cons _ _=>simp at h
    | cons u r Z=>
     intro vs pre h;cases vs with
     | nil=>simp at h
     | cons x vs=>
      simp only [A8];have:(pre++x::vs).set pre.length u=(pre++[u])++vs:=by simp
      rw [this];have:=Z vs (pre++[u]) (by simpa using h);simp only [gO,gD,hH] at this;rw [this];simp
   simpa using key us vs [] M
  rw [e] at p;exact p)))
end seqs
def VB (v:lV):∀(cells:Array Value) (h j:Nat),((v.zipIdx j).foldl (λcs (c:Value×Nat)=>cs.setIfInBounds (h+c.2) c.1) cells).toList=A8 cells.toList (h+j) v:=by
 induction v with
 | nil=>intro cells h j;simp [A8]
 | cons x r G=>
  intro cells h j;simp only [List.zipIdx_cons,List.foldl_cons,A8];rw [G];simp only [Array.toList_setIfInBounds];rw [show h+(j+1)=h+j+1 from by omega]
def Iu:List (Nat×Nat×lV)->lV->Option lV
 | [],cells=>some cells
 | (off,size,v)::r,cells=>match iA v.length size with
  | true=>match iy (off+size) cells.length with
   | true=>Iu r (A8 cells off v)
   | false=>none
  | false=>none
def N0 {M:Nat->Option (Nat×Nat)}:∀(ps:List (Nat×Value)) (N:List (Nat×Nat×lV)) (cells:Array Value) (out:lV),
 ps.length=N.length->(∀(i:Nat) (p:Nat×Value) (q:Nat×Nat×lV),ps[i]? = some p->N[i]? = some q->M p.1=some (q.1,q.2.1)/\p.2.cells=q.2.2.toArray)->Iu N cells.toList=some out->Instr.fill M cells ps=some out.toArray
 | [],[],cells,out,_,_,h=>by simp only [Iu,gy] at h;subst h;simp [Instr.fill]
 | [],_::_,_,_,O,_,_=>by simp at O
 | _::_,[],_,_,O,_,_=>by simp at O
 | (i,v)::ps,(G,size,us)::N,cells,out,O,Z,h=>by
  obtain ⟨h1,U⟩:=Z 0 _ _ rfl rfl;simp only at h1 U;simp only [Iu] at h;split at h
  . rename_i e1;split at h
    . rename_i e2;have V:=ip e1;have X:=gS e2;simp only [Array.length_toList] at X;have Y:v.cells.size=us.length:=by rw [U];simp
      simp only [Instr.fill,h1];have hc:¬(decide (v.cells.size≠size)||decide (G+v.cells.size>cells.size))=true:=by simp [Y,V];omega
      rw [AB (by simpa using hc)];refine N0 ps N _ out (by simpa using O) (λj p q hj hq=>Z (j+1) p q hj hq) ?_;have hz:v.cells.zipIdx.foldl (λcs (c:Value×Nat)=>cs.setIfInBounds (G+c.2) c.1) cells=(A8 cells.toList G us).toArray:=by
       apply Array.ext';rw [<-Array.foldl_toList];have:=VB us cells G 0;simpa [U,Array.toList_zipIdx] using this
      rw [show (v.cells.zipIdx.foldl (λcs x=>match x with|(c,j)=>cs.setIfInBounds (G+j) c) cells)=(A8 cells.toList G us).toArray from hz];simpa using h
    . cases h
  . cases h
def O6:∀(us vs pre post:lV),us.length=vs.length->A8 (pre++vs++post) pre.length us=pre++us++post:=by
 intro us
 induction us with
 | nil=>intro vs pre post h;cases vs with|nil=>simp [A8]|cons _ _=>simp at h
 | cons u r G=>
  intro vs pre post h;cases vs with
  | nil=>simp at h
  | cons x vs=>
   simp only [A8];have e:(pre++x::vs++post).set pre.length u=(pre++[u])++vs++post:=by simp
   rw [e];have:=G vs (pre++[u]) post (by simpa using h);simp only [gO,gD,hH] at this;rw [this];simp
def G7 (size:Nat):Nat->List lV->List (Nat×Nat×lV)
 | _,[]=>[]
 | k,v::r=>(k*size,size,v)::G7 size (k+1) r
def M8 (size:Nat):∀(G:List lV) (k:Nat) (pre rest:lV),pre.length=k*size->(∀v∈G,v.length=size)->rest.length=G.length*size ->
 Iu (G7 size k G) (pre++rest)=some (pre++G.flatten)
 | [],k,pre,rest,_,_,h=>by
  have:rest=[]:=by simpa using h
  subst this;simp [G7,Iu]
 | v::r,k,pre,rest,U,V,X=>by
  have M:=V v List.mem_cons_self;simp only [gD,Nat.add_mul,Nat.one_mul] at X;have N:rest=rest.take size++rest.drop size:=(List.take_append_drop _ _).symm;have O:(rest.take size).length=v.length:=by rw [ij,M];omega
  simp only [G7,Iu];have Y:iA v.length size=true:=by rw [M];exact Nat.beq_refl size
  have Z:iy (k*size+size) (pre++rest).length=true:=Nat.ble_eq_true_of_le (by rw [gO];omega);rw [Y];simp only;rw [Z];simp only;have e:A8 (pre++rest) (k*size) v=pre++v++rest.drop size:=by
   have:=O6 v (rest.take size) pre (rest.drop size) O.symm;rw [gZ,<-N,U] at this;exact this
  rw [e];have:=M8 size r (k+1) (pre++v) (rest.drop size) (by rw [gO,U,M,Nat.add_mul,Nat.one_mul]) (λu hu=>V u (List.mem_cons_of_mem _ hu)) (by rw [List.length_drop];omega);rw [this];simp
def Gw (l:Sl):Nat->List (Nat×Operand)->Option lV
 | _,[]=>some []
 | k,(i,x)::r=>match iA i k with
  | true=>match ev l x with
   | some v=>match Gw l (k+1) r with
    | some vs=>some (v::vs)
    | none=>none
   | none=>none
  | false=>none
def I6 {n:Nat} {l:Sl} {a:Act} (M:Env n l a):∀(ps:List (Nat×Operand)) (k:Nat) (vs:lV),Gw l k ps=some vs->ps.map (λp=>(p.1,a.eval p.2))=(vs.zipIdx k).map (λv=>(v.2,v.1))
 | [],k,vs,h=>by simp only [Gw,gy] at h;subst h;rfl
 | (i,x)::r,k,vs,h=>by
  simp only [Gw] at h;split at h
  . rename_i N;have G:=ip N;split at h
    . rename_i v O;split at h
      . rename_i us U;simp only [gy] at h;subst h G;simp [M.ev O,I6 M r _ _ U]
      . cases h
    . cases h
  . cases h
def N1 (w:wD) (len:Nat) (vs:lV) (T:TypeId):Option Value->wD->Prop
 | some v,w1=> ∃b,v = .slice (some ⟨b,0,none⟩) len len/\New w w1 b vs/\w1.heap[b]? = some (.cells vs.toArray T (0,0))
 | none,_=>False
def M9 (size:Nat):∀(G:List lV) (k i:Nat) (q:Nat×Nat×lV),(G7 size k G)[i]? = some q -> ∃v,G[i]? = some v/\q=((k+i)*size,size,v)
 | [],_,_,_,h=>by simp [G7] at h
 | v::r,k,0,q,h=>by simp [G7] at h;exact ⟨v,rfl,by simp [h]⟩
 | v::r,k,i+1,q,h=>by
  simp only [G7,List.getElem?_cons_succ] at h;obtain ⟨u,M,N⟩:=M9 size r (k+1) i q h;exact ⟨u,by simpa using M,by rw [N];congr 2;omega⟩
def I7 (size:Nat):∀(h:List lV) (k:Nat),(G7 size k h).length=h.length
 | [],_=>rfl
 | _::r,k=>by simp [G7,I7 size r]
section does
variable {P:Program} {n:Nat} {l:Sl} {w:wD} {tab:Tab} {zt:Ei} {ty:TypeId}
def Rv {len:Nat} (T:TabOk P tab) (Z:Ch P zt) (ht:Az tab t=some (.slice e,sz)) (hE:Az tab e=some (s,b))
 (hz:Cz zt e=some zs) (hp:Gw l 0 ps=some vs) (hl:vs.length=len) (hc:vs.all (λv=>iA v.cells.size b)=true) (hm:iy (len*b) 10000=true) (hn0:gM 0 (len*b)=true) :
 BD P n l (.buildSlice t len ps.toArray) ty w (N1 w len (vs.map (·.cells.toList)).flatten e):=by
 unfold BD;intro a dst pos after g next Q ha hn _;have hu:P.underlying t=some (.slice e):=(T _ _ _ ht).under;have hm':=gS hm;have hn0':0<len*b:=gS hn0;obtain ⟨i0,v0,z1,z2,z3⟩:=EL Z hz;have hps:=I6 ha ps 0 vs hp;have hlen:∀v∈vs,v.cells.size=b:=λv hv=>ip (List.all_eq_true.1 hc v hv)
 have hfill:∀cells:Array Value,cells.size=len*b->Instr.fill (λi=>some (i*b,b)) cells ((vs.zipIdx 0).map (λv=>(v.2,v.1)))=some (vs.map (·.cells.toList)).flatten.toArray:=λcells hcs=>by
  refine N0 _ (G7 b 0 (vs.map (·.cells.toList))) cells _ (by simp [I7]) ?_ ?_
  . intro i p q hi hq;obtain ⟨v,hv,rfl⟩:=M9 b _ 0 i q hq;simp only [gV,Option.map_eq_some_iff] at hv hi;obtain ⟨x,hx,rfl⟩:=hv;obtain ⟨y,hy,rfl⟩:=hi;rw [List.getElem?_zipIdx] at hy;rw [hx] at hy;simp only [Option.map_some,gy] at hy;subst hy;simp
  . have:=M8 b (vs.map (·.cells.toList)) 0 [] cells.toList (by simp) (by simpa using hlen) (by simp [hcs,hl]);simpa using this
 have e1:(execOp a.eval ⟨dst,.buildSlice t len ps.toArray,ty,pos,after,g⟩).run P w = .ok (.value (.slice (some ⟨w.heap.size,0,none⟩) len len)) (w.alloc (.cells (vs.map (·.cells.toList)).flatten.toArray e (0,0))):=by
  have hpa:(ps.toArray.map λ(p:Nat×Operand)=>(p.1,a.eval p.2)).toList=(vs.zipIdx 0).map (λv=>(v.2,v.1)):=by simpa using hps
  have hb:(Instr.buildSlice t len (ps.toArray.map λ(p:Nat×Operand)=>(p.1,a.eval p.2))).run P w = .ok (.slice (some ⟨w.heap.size,0,none⟩) len len) (w.alloc (.cells (vs.map (·.cells.toList)).flatten.toArray e (0,0))):=by
   simp only [Instr.buildSlice,gE,AA hu,gw,B3 (T _ _ _ hE),hpa];rw [AB (by omega)];simp only [AB (show ¬len*b=0 by omega),zeroValue,typeInfo,program,Sem.run,z1,z2,bind,Sem.bind,pure];rw [hfill _ (by simp)];simp only [newRow,newObj,bind,Sem.bind,Sem.run,pure];rfl
  simp only [execOp,gE];rw [show (ps.toArray.map λx=>match x with|(i,x)=>(i,a.eval x))=ps.toArray.map λ(p:Nat×Operand)=>(p.1,a.eval p.2) from rfl,hb];rfl
 unfold iB;rw [e1];exact hn _ _ ⟨_,rfl,El _ _ _,by show (w.heap.push _)[w.heap.size]? = _;simp⟩
def BG {a:Addr} (h:ev l x=some (.pointer (some a))):Bh P n l S (.nilCheck x) ty (.pointer (some a)):=by
 unfold Bh;intro a w G pos after g M _;simp [execOp,M.ev h]
def IF (tab:Tab) (fs:List (Nat×Nat)) (l:Sl):List (Nat×Operand)->Option (List (Nat×Value)×List (Nat×Nat×lV))
 | []=>some ([],[])
 | (i,x)::r=>match fs[i]? with
  | some (off,ft)=>match Az tab ft with
   | some (_,sz)=>match ev l x with
    | some v=>match IF tab fs l r with
     | some (ps,qs)=>some ((i,v)::ps,(off,sz,v.cells.toList)::qs)
     | none=>none
    | none=>none
   | none=>none
  | none=>none
def Ku {a:Act} {Z:List (Nat×Nat)} {gs:Array Field} (T:TabOk P tab) (ha:Env n l a) (hg:∀(i o G:Nat),Z[i]? = some (o,G) -> ∃g:Field,gs[i]? = some g/\g.offset=o/\g.type=G /\ ∃j:TypeInfo,P.info? G=some j/\j.size≠0)
 {pl:Array (Nat×Nat)} (M:∀(i:Nat) (g:Field) (s:Sk) (sz:Nat),gs[i]? = some g->TyOk P g.type s sz->pl[i]? = some (g.offset,sz)):∀(xs:List (Nat×Operand)) (ps:List (Nat×Value)) (N:List (Nat×Nat×lV)),IF tab Z l xs=some (ps,N) ->
  xs.map (λp=>(p.1,a.eval p.2))=ps/\ps.length=N.length /\ ∀(i:Nat) (p:Nat×Value) (q:Nat×Nat×lV),ps[i]? = some p->N[i]? = some q->pl[p.1]? = some (q.1,q.2.1)/\p.2.cells=q.2.2.toArray
 | [],ps,N,h=>by simp only [IF,gy,Prod.mk.injEq] at h;obtain ⟨rfl,rfl⟩:=h;simp
 | (i,x)::r,ps,N,h=>by
  simp only [IF] at h;split at h
  . rename_i O G hf;split at h
    . rename_i s sz ht;split at h
      . rename_i v hv;split at h
        . rename_i U V hr;simp only [gy,Prod.mk.injEq] at h;obtain ⟨rfl,rfl⟩:=h;obtain ⟨h1,h2,h3⟩:=Ku T ha hg M r U V hr;refine ⟨by simp [ha.ev hv,h1],by simp [h2],?_⟩;rintro (_|j) p q X Y
          . simp only [gX,gy] at X Y;subst X Y;obtain ⟨g,g1,g2,g3,-⟩:=hg i O G hf;refine ⟨?_,by simp⟩;have:=M i g s sz g1 (by rw [g3];exact T _ _ _ ht);rw [g2] at this;exact this
          . exact h3 j p q (by simpa using X) (by simpa using Y)
        . cases h
      . cases h
    . cases h
  . cases h
def Na:∀(N:List Field),(∀f∈N,∃i,P.info? f.type=some i) -> ∃pl:List (Nat×Nat),N.mapM (λf=>(P.info? f.type).map λi=>(f.offset,i.size))=some pl /\ ∀(i:Nat) (g:Field) (s:Sk) (sz:Nat),N[i]? = some g->TyOk P g.type s sz->pl[i]? = some (g.offset,sz)
 | [],_=>⟨[],by simp,by simp⟩
 | f::r,h=>by
  obtain ⟨i,O⟩:=h f List.mem_cons_self;obtain ⟨pl,V,X⟩:=Na r (λg G=>h g (List.mem_cons_of_mem _ G));refine ⟨(f.offset,i.size)::pl,by simp [O,V],?_⟩;rintro (_|j) g s sz G U
  . simp only [gX,gy] at G;subst G;obtain ⟨Z,M,Y⟩:=U.info;rw [O] at M;injection M with M
    subst M;simp [Y]
  . exact X j g s sz (by simpa using G) U
def TP {h:List (Nat×Nat)} {xs:List (Nat×Operand)} {ps:List (Nat×Value)} {G:List (Nat×Nat×lV)} {out:lV} (T:TabOk P tab) (Z:Ch P zt)
 (U:Az tab t=some (.struct h,sz)) (V:Cz zt t=some zs) (X:IF tab h l xs=some (ps,G)) (Y:Iu G zs=some out):Bh P n l S (.build t xs.toArray) ty (.agg out.toArray):=by
 unfold Bh;intro a w aa pos after g ha _;obtain ⟨N,h1,h2,O⟩:=(T _ _ _ U).under;obtain ⟨i0,v0,z1,z2,z3⟩:=EL Z V;obtain ⟨pl,p1,p2⟩:=Na (P:=P) N.toList (λf hf=>by
  obtain ⟨i,hi,rfl⟩:=List.mem_iff_getElem.1 hf;have M:i<h.length:=by simpa [h2] using hi
  obtain ⟨g,g1,g2,g3,j,g4,-⟩:=O i h[i].1 h[i].2 (gm M);have:N.toList[i]=g:=by
   have:=Array.getElem?_eq_some_iff.1 g1;simpa using this.2
  rw [this,g3];exact ⟨j,g4⟩)
 obtain ⟨q1,q2,q3⟩:=Ku T ha O (pl:=pl.toArray) (λi g s sz hg hk=>by simpa using p2 i g s sz (by simpa using hg) hk) xs ps G X;have hb:P.built t (xs.toArray.map λ(p:Nat×Operand)=>(p.1,a.eval p.2)).toList=some out.toArray:=by
  unfold Program.built;simp only [z1,h1,z2,p1];rw [show (xs.toArray.map λ(p:Nat×Operand)=>(p.1,a.eval p.2)).toList=ps from by simpa using q1];exact N0 ps G v0.cells out q2 q3 (by rw [z3];simpa using Y)
 have:=run_build w t _ _ hb;simp only [execOp,gE];rw [show (xs.toArray.map λx=>match x with|(i,x)=>(i,a.eval x))=xs.toArray.map λ(p:Nat×Operand)=>(p.1,a.eval p.2) from rfl,this];rfl
end does
def Row.sub (h:Row w ⟨b,o,none⟩ vs) (i k:Nat):Row w ⟨b,o+i,none⟩ ((vs.drop i).take k):=λj v G=>by
 have M:vs[i+j]? = some v:=by
  rw [List.getElem?_take] at G;split at G
  . rwa [List.getElem?_drop] at G
  . cases G
 have:=h.at M;have e:(⟨b,o+i,none⟩:Addr).add j=⟨b,o+(i+j),none⟩:=by unfold iC;by_cases N:j=0<;>simp [N,Nat.add_assoc]
 rw [e];exact this
section parts
variable {P:Program} {n:Nat} {l:Sl} {S:wD->Prop} {ty:TypeId} {tab:Tab}
def EG (T:TabOk P tab) (h:Az tab t=some (s,sz)) (G:s.agg=true) (M:ev l x=some (.pointer (some ⟨b,o,none⟩)))
 (N:∀w,S w->Blk w b vs) (O:iy (o+sz) vs.length=true):Bh P n l S (.load t x) ty (.agg ((vs.drop o).take sz).toArray):=
 H7 T h G M (by have:=gS O;simp;omega) (λw U=>by have:=(N w U).row.sub o sz;simpa using this)
def Iv (T:TabOk P tab) (h:Az tab t=some (s,sz)) (G:s.agg=true) (M:ev l x=some (.pointer (some ⟨b,o+i,none⟩)))
 (N:∀w,S w->Row w ⟨b,o,none⟩ vs) (O:iy (i+sz) vs.length=true):Bh P n l S (.load t x) ty (.agg ((vs.drop i).take sz).toArray):=
 H7 T h G M (by have:=gS O;simp;omega) (λw U=>(N w U).sub i sz)
end parts
def TQ {tab:Tab} {a:lB} (T:TabOk P tab) (h:Az tab t=some (.str,sz)) (G:ev l x=some (str a)):Bh P n l S (.call ⟨.builtin .len,#[x],#[t]⟩) ty (.int .i64 a.length):=O5 T (pt:=true) h G
def Arr {α:Type} (S:nP) (sz:Nat) (E:wD->Nat->Nat->α->Prop) (w:wD) (l:List α) (a:oA):Prop:=
 l=[] \/ ∃b o,a=some ⟨b,o,none⟩/\S b /\ ∀i x,l[i]? = some x->E w b (o+i*sz) x
def Arr.mono {α:Type} {S S':nP} {E G:wD->Nat->Nat->α->Prop} {l:List α} {a:oA} (h:Arr S sz E w l a) (O:∀b,S b->S' b) (U:∀b o x,x∈l->S b->E w b o x->G w' b o x):Arr S' sz G w' l a:=by
 rcases h with h|⟨b,o,V,M,X⟩
 . exact gq h
 . exact gt ⟨b,o,V,O b M,λi x N=>U _ _ _ (io N) M (X i x N)⟩
def Arr.get {α:Type} {S:nP} {E:wD->Nat->Nat->α->Prop} {l:List α} {a:oA} (h:Arr S sz E w l a) (G:0<l.length) :
 ∃b o,a=some ⟨b,o,none⟩/\S b /\ ∀i x,l[i]? = some x->E w b (o+i*sz) x:=by
 rcases h with h|h
 . subst h;simp at G
 . exact h
def TB (w:wD) (b:Nat) (vs:lV) (T:TypeId):Prop:=w.heap[b]? = some (.cells vs.toArray T (0,0))
def TB.blk {T:TypeId} (h:TB w b vs T):Blk w b vs:=⟨T,h⟩
def TB.ext {T:TypeId} (h:TB w b vs T) (e:Ext w w'):TB w' b vs T:=(e.block h.blk.lt).trans h
def TB.set {w:wD} {b i:Nat} {vs:lV} {T:TypeId} (h:TB w b vs T) (v:Value):TB (w.setCell ⟨b,i,none⟩ v) b (vs.set i v) T:=by
 have G:w.heap[b]? = some (.cells vs.toArray T (0,0)):=h;unfold TB;simp [World.setCell,Array.getElem?_modify,G]
def EV {P:Program} {T:TypeId}:∀(us:lV) (w:wD) (b o i:Nat) (vs:lV),TB w b vs T->o+i+us.length<=vs.length->us.all Value.one=true ->
 ∃w1,(storeCells ⟨b,o,none⟩ us i).run P w = .ok () w1/\Put w w1 b (A8 vs (o+i) us)/\TB w1 b (A8 vs (o+i) us) T
 | [],w,b,o,i,vs,h,_,_=>⟨w,rfl,⟨h.blk,Fr.refl _ _,rfl⟩,h⟩
 | u::r,w,b,o,i,vs,h,N,G=>by
  simp only [gD] at N;simp only [List.all_cons,gu] at G;have O:(⟨b,o,none⟩:Addr).add i=⟨b,o+i,none⟩:=by unfold iC;by_cases U:i=0<;>simp [U]
  have e:(storeCells ⟨b,o,none⟩ (u::r) i).run P w=(storeCells ⟨b,o,none⟩ r (i+1)).run P (w.setCell ⟨b,o+i,none⟩ u):=by
   simp only [storeCells,store,O,bind,Sem.bind];exact M7 h.blk (by omega) G.1 _
  obtain ⟨w1,V,M,X⟩:=EV (P:=P) r _ b o (i+1) _ (h.set (i:=o+i) u) (by simp;omega) G.2;refine ⟨w1,by rw [e,V],⟨M.blk,((Fr.refl (· = b) w).setCell ⟨b,o+i,none⟩ u (gq rfl)).trans M.fr,?_⟩,X⟩;rw [M.size];simp [World.setCell]
section typed
variable {P:Program} {n:Nat} {ops:Array Oper} {Q:Exit->Act->wD->Prop} {rest:List Oper} {l:Sl} {w:wD} {tab:Tab}
 {d:Nat} {ty:TypeId} {pos:String} {after:Array Edge}
def VC (w:wD) (vs:lV) (T:TypeId):Option Value->wD->Prop
 | some v,w1=> ∃b,v = .pointer (some ⟨b,0,none⟩)/\New w w1 b vs/\TB w1 b vs T
 | none,_=>False
def I8 (w:wD) (vs:lV) (T:TypeId):TB (w.alloc (.cells vs.toArray T (0,0))) w.heap.size vs T:=by show (w.heap.push _)[w.heap.size]? = _;simp
def TR (hx:ev l x=some v) (hv:v.cells=vs.toArray):BD P n l (.box t x) ty w (VC w vs t):=by
 unfold BD;intro a dst pos after g next Q ha hn _;have e:(execOp a.eval ⟨dst,.box t x,ty,pos,after,g⟩).run P w = .ok (.value (.pointer (some ⟨w.heap.size,0,none⟩))) (w.alloc (.cells vs.toArray t (0,0))):=by
  simp [execOp,ha.ev hx,Instr.box,newVar,newRow,newObj,Sem.run,hv,bind,Sem.bind,pure]
 unfold iB;rw [e];exact hn _ _ ⟨_,rfl,El _ _ _,I8 _ _ _⟩
def O7 {zt:Ei} (Z:Ch P zt) (hz:Cz zt t=some vs):BD P n l (.alloc t) ty w (VC w vs t):=by
 unfold BD;intro a dst pos after g next Q ha hn _;obtain ⟨i,v,h1,h2,h3⟩:=EL Z hz;have e:(execOp a.eval ⟨dst,.alloc t,ty,pos,after,g⟩).run P w = .ok (.value (.pointer (some ⟨w.heap.size,0,none⟩))) (w.alloc (.cells vs.toArray t (0,0))):=by
  simp [execOp,Instr.alloc,zeroValue,typeInfo,program,newVar,newRow,newObj,Sem.run,h1,h2,h3,bind,Sem.bind,pure]
 unfold iB;rw [e];exact hn _ _ ⟨_,rfl,El _ _ _,I8 _ _ _⟩
def K8 (G:ev l x=some v) (M:v.cells=vs.toArray) (N:gM d n=true)
 (k:∀b w1,New w w1 b vs->TB w1 b vs t->LW P n ops Q rest ((d,.pointer (some ⟨b,0,none⟩))::l) w1):LW P n ops Q (⟨some d,.box t x,ty,pos,after,none⟩::rest) l w:=
 Ax (TR G M) N (λ_ w1 ⟨b,h,hn,ht⟩=>h▸k b w1 hn ht) (λ_ h=>h)
def TS {zt:Ei} (Z:Ch P zt) (G:Cz zt t=some vs) (M:gM d n=true)
 (k:∀b w1,New w w1 b vs->TB w1 b vs t->LW P n ops Q rest ((d,.pointer (some ⟨b,0,none⟩))::l) w1):LW P n ops Q (⟨some d,.alloc t,ty,pos,after,none⟩::rest) l w:=
 Ax (O7 Z G) M (λ_ w1 ⟨b,h,hn,ht⟩=>h▸k b w1 hn ht) (λ_ h=>h)
end typed
def Fr.of_grown {row:Option Nat} (h:w.grownBy w' row):Fr (λk=>some k=row) w w':=⟨h.os,h.tape,h.output,h.size,λk G M=>h.block k G M⟩
abbrev Own (w:wD) (b:Nat) (e:TypeId) (sz:Nat) (v:Value) (n:Nat) (cs:lV):Prop:=w.ownsRow b e sz v n cs
def Own.nil:Own w b e sz (.slice none 0 0) 0 []:=⟨by simp,gq ⟨rfl,rfl⟩⟩
def Own.ext {cs:lV} (h:Own w b e sz v n cs) (x:Ext w w'):Own w' b e sz v n cs:=by
 refine h.kept (row:=none) ⟨Below.os x,Below.tape x,Below.output x,Below.size x,λk G _=>x.block G⟩ ?_;cases hv:v.ownBlock<;>simp
def Own.blk {cs:lV} (h:Own w b e sz v n cs) {k:Nat} (G:v.ownBlock=some k):b<=k/\k<w.heap.size:=by
 obtain ⟨-,⟨rfl,-⟩|⟨g,cap,cur,rfl,O,N,-⟩⟩:=h
 . simp [iI] at G
 . simp [iI] at G;subst G;refine ⟨O,?_⟩;rcases gK g w.heap.size with M|M
   . exact M
   . rw [iv M] at N;cases N
def Own.fr {S:nP} {cs:lV} (h:Own w b e sz v n cs) (x:Fr S w w') (N:∀k,v.ownBlock=some k -> ¬S k):Own w' b e sz v n cs:=by
 have O:∀k,v.ownBlock=some k->b<=k/\k<w.heap.size:=λk U=>h.blk U
 obtain ⟨M,V|⟨g,cap,cur,rfl,X,Y,Z⟩⟩:=h
 . exact ⟨M,gq V⟩
 . obtain ⟨-,G⟩:=O g rfl;exact ⟨M,gt ⟨g,cap,cur,rfl,X,by rw [x.block g G (N g rfl)];exact Y,Z⟩⟩
def Own.row {cs:lV} (h:Own w b e sz v n cs):(v = .slice none 0 0/\n=0/\cs=[]) \/ ∃g cap,v = .slice (some ⟨g,0,none⟩) n cap/\b<=g/\v.ownBlock=some g/\Row w ⟨g,0,none⟩ cs:=by
 obtain ⟨N,⟨rfl,rfl⟩|⟨g,cap,cur,rfl,O,U,-,-,-,V⟩⟩:=h
 . exact gq ⟨rfl,rfl,by simpa using N⟩
 . refine gt ⟨g,cap,rfl,O,rfl,λi u G=>?_⟩;have e:(⟨g,0,none⟩:Addr).add i=⟨g,i,none⟩:=by unfold iC;by_cases X:i=0<;>simp [X]
   rw [e];rw [<-V] at G;have M:cur.toList[i]? = some u:=by
    rw [List.getElem?_take] at G;split at G
    . exact G
    . cases G
   simpa [World.cell?,U] using M
def eP (w:wD) (b:Nat) (e:TypeId) (sz:Nat) (v:Value) (n:Nat) (cs:lV):Option Value->wD->Prop
 | some v',w'=>Own w' b e sz v' n cs/\Fr (λk=>v.ownBlock=some k) w w' /\ ∃g cap,v' = .slice (some ⟨g,0,none⟩) n cap/\(v.ownBlock=some g\/w.heap.size<=g)
 | none,_=>False
def Dk (P:Program) (e:TypeId):Bool:=match P.info? e with
 | some i=>iy i.bytes 1000
 | none=>false
def SO (v:Value):Value.one v=v.oneCell':=by cases v<;>rfl
section app
variable {P:Program} {n:Nat} {l:Sl} {w:wD} {tab:Tab} {zt:Ei} {ty:TypeId}
def DV {y:Operand} {k m cap:Nat} {cs us:lV} {p:Addr} (T:TabOk P tab) (Z:Ch P zt) (ht:Az tab t=some (.slice e,o)) (hE:Az tab e=some (s,sz)) (hz:Cz zt e=some zs) (hzl:zs.length=sz)
 (hby:Dk P e=true) (hsz:gM 0 sz=true) (hx:ev l x=some v) (hy:ev l y=some (.slice (some p) m cap)) (hown:Own w b e sz v k cs) (hr:Row w p us) (hul:us.length=m*sz) (hu:us.all Value.one=true) (hkm:k+m<=100000000000) (hm0:0<k+m) (hb:b<=w.heap.size) :
 BD P n l (.call ⟨.builtin .append,#[x,y],#[t,t]⟩) ty w (eP w b e sz v (k+m) (cs++us)):=by
 unfold BD;intro a dst pos after g next Q ha hn _;obtain ⟨i,v0,z1,z2,z3⟩:=EL Z hz;obtain ⟨i',hi',hs'⟩:=(T _ _ _ hE).info;rw [z1] at hi';obtain rfl:=gB hi';have hbb:i.bytes<=1000:=by
  unfold Dk at hby;rw [z1] at hby;exact gS hby
 have hzs:v0.cells.size=sz:=by rw [z3];simpa using hzl
 have hsz':0<sz:=gS hsz;have hbytes:(k+m)*i.bytes<=140737488355328:=by have:=Nat.mul_le_mul hkm hbb;omega
 have hnews:∀j u,us[j]? = some u->w.cell? (p.add j)=some u:=λj u hj=>hr j u hj
 have h1c:∀u∈us,u.oneCell'=true:=λu hm=>by rw [<-SO];exact List.all_eq_true.1 hu u hm
 have hu':P.underlying t=some (.slice e):=(T _ _ _ ht).under;obtain ⟨v',w',hrun,h1,h2,h3⟩:=run_append_own (P:=P) w b t ty e i v0 sz i.bytes hu' z1 z2 hs' rfl hzs hsz' v k cs hown p m cap us hul hnews h1c (by unfold maxLen;omega) hbytes hb;have hwhere:∃g cap',v' = .slice (some ⟨g,0,none⟩) (k+m) cap'/\(v.ownBlock=some g\/w.heap.size<=g):=by
  subst hs';rcases hown.2 with ⟨rfl,rfl⟩|⟨g,cap',cur,rfl,hbg,hg,hnc,hcm,hcs,htake⟩
  . by_cases hm:m=0
    . omega
    . have hr':=run_append_nil (P:=P) w t ty e i v0 hu' z1 z2 p m cap us hul hnews (by omega) (by omega) (by have hb:=hbytes;simp only [iu] at hb;omega);rw [hr'] at hrun;simp only [Result.ok.injEq] at hrun;exact ⟨w.heap.size,_,by rw [<-hrun.1,iu],gt (gI _)⟩
  . by_cases hroom:k+m<=cap'
    . have hfit:k*i.size+us.length<=cur.size:=by rw [hul,hcs,<-Nat.add_mul];exact Nat.mul_le_mul_right _ hroom
      have hr':=run_append_room (P:=P) w t ty e i hu' z1 g k cap' cur hg p m cap us hul hnews h1c hroom hfit;rw [hr'] at hrun;simp only [Result.ok.injEq] at hrun;exact ⟨g,_,hrun.1.symm,gq rfl⟩
    . have holds:∀j u,cs[j]? = some u->w.cell? ((⟨g,0,none⟩:Addr).add j)=some u:=hown.cells (g:=g) rfl;have hr':=run_append_grow (P:=P) w t ty e i v0 hu' z1 z2 ⟨g,0,none⟩ k cap' cs hown.1 holds p m cap us hul hnews (by omega) (by omega) (growslice_fits (by omega) hbytes);rw [hr'] at hrun;simp only [Result.ok.injEq] at hrun;exact ⟨w.heap.size,_,hrun.1.symm,gt (gI _)⟩
 have e1:(execOp a.eval ⟨dst,.call ⟨.builtin .append,#[x,y],#[t,t]⟩,ty,pos,after,g⟩).run P w = .ok (.value v') w':=by
  simp only [execOp,resolve,invoke,builtin,gE,gP,Result.andThen_ok,List.map_toArray,im,List.map_nil,ha.ev hx,ha.ev hy,hrun]
 unfold iB;rw [e1];exact hn v' w' ⟨h1,⟨h2.os,h2.tape,h2.output,h2.size,λj hj hs=>h2.block j hj (λe=>hs e.symm)⟩,hwhere⟩
end app
def Bf (es:List MapEntry) (kvs:List (lB×Value)):Prop:=es.map (λe=>(e.key,e.val))=kvs.map (λp=>(str p.1,p.2))
def MapIs (w:wD) (r:Nat) (kvs:List (lB×Value)):Prop:= ∃es clock,w.heap[r]? = some (.map es clock)/\Bf es.toList kvs
def Ej:List (lB×Value)->lB->Option Value
 | [],_=>none
 | p::r,k=>if k=p.1 then some p.2 else Ej r k
def Gb:List (lB×Value)->lB->Value->List (lB×Value)
 | [],k,v=>[(k,v)]
 | p::r,k,v=>if k=p.1 then (p.1,v)::r else p::Gb r k v
def MapIs.lt {r:Nat} {kvs:List (lB×Value)} (h:MapIs w r kvs):r<w.heap.size:=by
 obtain ⟨es,c,h,-⟩:=h;rcases gK r w.heap.size with G|G
 . exact G
 . rw [iv G] at h;cases h
def MapIs.ext {r:Nat} {kvs:List (lB×Value)} (h:MapIs w r kvs) (x:Ext w w'):MapIs w' r kvs:=by
 have G:=h.lt;obtain ⟨es,c,h,e⟩:=h;exact ⟨es,c,by rw [x.block G];exact h,e⟩
def MapIs.fr {S:nP} {r:Nat} {kvs:List (lB×Value)} (h:MapIs w r kvs) (x:Fr S w w') (G:¬S r):MapIs w' r kvs:=by
 have M:=h.lt;obtain ⟨es,c,h,e⟩:=h;exact ⟨es,c,by rw [x.block r M G];exact h,e⟩
def N2 (b:ByteArray) (x:lB):(b==(⟨x.toArray⟩:ByteArray))=(b.data.toList==x):=by
 show (b.data==x.toArray)=_;rw [Bool.eq_iff_iff];simp;constructor
 . intro h;rw [h]
 . intro h;rw [<-h]
def Kv:∀(es:List MapEntry) (kvs:List (lB×Value)) (k:lB) (i:Nat),Bf es kvs ->
 ∃o,Instr.findNow .string (str k) es i=some o/\(o.map (·.2)=Ej kvs k) /\ ∀j v,o=some (j,v)->i<=j /\ ∃e,es[j-i]? = some e/\e.key=str k /\ ∀M,Bf (es.set (j-i) { e with key:=str k,val:=M }) (Gb kvs k M)
 | [],[],k,i,_=>⟨none,rfl,rfl,λ_ _ h=>by cases h⟩
 | [],_::_,_,_,h=>by simp [Bf] at h
 | _::_,[],_,_,h=>by simp [Bf] at h
 | e::es,(O,M)::kvs,k,i,h=>by
  simp only [Bf,im,ig,Prod.mk.injEq] at h;obtain ⟨⟨N,U⟩,V⟩:=h;have X:Instr.sameNow .string (str k) e.key=some (decide (k=O)):=by
   rw [N];simp only [Instr.sameNow];rw [N2];simp [FG]
  by_cases G:k=O
  . subst G;refine ⟨some (i,e.val),by simp [Instr.findNow,X],by simp [Ej,U],λj v h=>?_⟩;simp only [gy,Prod.mk.injEq] at h;obtain ⟨rfl,-⟩:=h;refine ⟨gI _,e,by simp,N,λM=>?_⟩;simp [Bf,Gb,V]
  . obtain ⟨o,Z,h2,h3⟩:=Kv es kvs k (i+1) V;refine ⟨o,by simp [Instr.findNow,X,G,Z],by simp [Ej,G,h2],λj v h=>?_⟩;obtain ⟨g1,e',g2,g3,g4⟩:=h3 j v h;have Y:j-i=(j-(i+1))+1:=by omega
    refine ⟨by omega,e',by rw [Y];simpa using g2,g3,λM=>?_⟩;rw [Y];have:=g4 M;simp only [Bf] at this ⊢;simp [Gb,G,N,U,this]
section maps
variable {P:Program} {n:Nat} {l:Sl} {w:wD} {tab:Tab} {zt:Ei} {ty:TypeId}
def run_findKey (N:P.underlying b=some .string) {es:List MapEntry} {kvs:List (lB×Value)} (h:Bf es kvs) (w:wD) :
 ∃o,(Instr.findKey b (str k) es).run P w = .ok o w/\(o.map (·.2)=Ej kvs k) /\ ∀j v,o=some (j,v) -> ∃e,es[j]? = some e/\e.key=str k /\ ∀M,Bf (es.set j { e with key:=str k,val:=M }) (Gb kvs k M):=by
 obtain ⟨o,O,U,V⟩:=Kv es kvs k 0 h;refine ⟨o,by simp [Instr.findKey,AA N,gw,O],U,λj v X=>?_⟩;obtain ⟨-,e,Y,Z,g4⟩:=V j v X;exact ⟨e,by simpa using Y,Z,by simpa using g4⟩
def run_checkKey {h:Nat} (G:P.underlying h=some .string) (b:Bool) (k:lB) (w:wD):(Instr.checkKey b 10000 h (str k)).run P w = .ok () w:=by
 rw [show (10000:Nat)=9999+1 from rfl,Instr.checkKey];simp [AA G,gw]
def Cv (o:Option Value) (z:Value) (c:Bool):Value:=if c then .tuple #[o.getD z,.bool o.isSome] else o.getD z
def Lk {y:Operand} {N r:Nat} {c:Bool} {z:Value} {kvs:List (lB×Value)} (T:TabOk P tab) (Z:Az tab t=some (.map b e,sz)) (O:Az tab b=some (.str,N)) (U:((P.info? e).bind (·.zero))=some z)
 (hx:ev l x=some (.map (some r))) (hy:ev l y=some (str k)) (hm:∀w,S w->MapIs w r kvs):Bh P n l S (.lookup t x y c) ty (Cv (Ej kvs k) z c):=by
 unfold Bh;intro a w aa pos after g X hS;have hu:P.underlying t=some (.map b e):=(T _ _ _ Z).under;have Y:P.underlying b=some .string:=(T _ _ _ O).under;obtain ⟨es,h,hh,he⟩:=hm w hS;obtain ⟨i0,z1,z2⟩:∃i,P.info? e=some i/\i.zero=some z:=by
  cases hi:P.info? e with
  | none=>rw [hi] at U;cases U
  | some i=>exact ⟨i,rfl,by simpa [hi] using U⟩
 obtain ⟨o,h1,h2,-⟩:=run_findKey Y (k:=k) he w;have V:(zeroValue e).run P w = .ok z w:=by simp [zeroValue,typeInfo,program,Sem.run,z1,z2,bind,Sem.bind,pure]
 have e1:(Instr.lookup t (.map (some r)) (str k) c).run P w = .ok (Cv (Ej kvs k) z c) w:=by
  have hg:(getObj r).run P w = .ok (.map es h) w:=by simp [getObj,Sem.run,hh]
  simp only [Instr.lookup,gE,AA hu,gw,hg,gP,run_checkKey Y,h1];rw [<-h2];cases o with
  | none=>simp [V,Cv]
  | some q=>simp [Cv]
 simp only [execOp,X.ev hx,X.ev hy,gE,e1,gw,gP]
def IG (w:wD) (r:Nat) (o G:Obj) (h:w.heap[r]? = some o):({ w with heap:=w.heap.setIfInBounds r G }:wD).heap[r]? = some G/\Fr (· = r) w { w with heap:=w.heap.setIfInBounds r G }:=by
 have M:r<w.heap.size:=(Array.getElem?_eq_some_iff.1 h).1;refine ⟨by simp [M],rfl,rfl,rfl,by simp,λk O N=>?_⟩;exact Array.getElem?_setIfInBounds_ne (λe=>N e.symm)
def MR {Z r:Nat} {kvs:List (lB×Value)} (T:TabOk P tab) (ht:Az tab t=some (.map b e,sz)) (aa:Az tab b=some (.str,Z)) (hm:MapIs w r kvs) :
 ∃w1,(Instr.mapUpdate t (.map (some r)) (str k) v).run P w = .ok () w1/\MapIs w1 r (Gb kvs k v)/\Fr (· = r) w w1/\w1.heap.size=w.heap.size:=by
 have hu:P.underlying t=some (.map b e):=(T _ _ _ ht).under;have hk:P.underlying b=some .string:=(T _ _ _ aa).under;obtain ⟨es,G,V,he⟩:=hm;obtain ⟨o,h1,h2,h3⟩:=run_findKey hk (k:=k) he w;have hg:(getObj r).run P w = .ok (.map es G) w:=by simp [getObj,Sem.run,V]
 have M:∀ob,(setObj r ob).run P w = .ok () { w with heap:=w.heap.setIfInBounds r ob }:=λob=>by simp [setObj,Sem.run,V]
 cases o with
 | none=>
  have ab:Ej kvs k=none:=by simpa using h2.symm
  obtain ⟨p1,p2⟩:=IG w r _ (.map (es.push { key:=str k,val:=v,born:=G }) (G+1)) V;refine ⟨_,?_,⟨_,_,p1,?_⟩,p2,by simp⟩
  . simp only [Instr.mapUpdate,gE,AA hu,gw,hg,run_checkKey hk,h1,M]
  . have key:∀(es:List MapEntry) (kvs:List (lB×Value)),Bf es kvs->Ej kvs k=none->Bf (es++[{ key:=str k,val:=v,born:=G }]) (Gb kvs k v):=by
     intro es kvs
     induction kvs generalizing es with
     | nil=>intro h _;cases es with|nil=>simp [Bf,Gb]|cons _ _=>simp [Bf] at h
     | cons p r ih=>
      intro h X;cases es with
      | nil=>simp [Bf] at h
      | cons e es=>
       simp only [Ej] at X;split at X
       . cases X
       . rename_i ac;simp only [Bf,im,ig] at h;have:=ih es h.2 X;simp only [Bf] at this ⊢;simp [Gb,ac,h.1,this]
    simpa using key es.toList kvs he ab
 | some q=>
  obtain ⟨j,u⟩:=q;obtain ⟨en,g1,g2,g3⟩:=h3 j u rfl;have N:(Instr.keyThatStays (((es[j]?).map (·.key)).getD (str k)) (str k)).run P w = .ok (str k) w:=by
   have:es[j]? = some en:=by simpa using g1
   rw [this];have hb:((⟨k.toArray⟩:ByteArray)==⟨k.toArray⟩)=true:=by rw [N2];simp
   simp [Instr.keyThatStays,g2,Instr.sameBits,hb]
  obtain ⟨p1,p2⟩:=IG w r _ (.map (es.modify j λe=>{ e with key:=str k,val:=v }) G) V;refine ⟨_,?_,⟨_,_,p1,?_⟩,p2,by simp⟩
  . simp only [Instr.mapUpdate,gE,AA hu,gw,hg,run_checkKey hk,h1,N,M]
  . have:=g3 v;have e:(es.modify j λe=>{ e with key:=str k,val:=v }).toList=es.toList.set j { en with key:=str k,val:=v }:=by
     apply List.ext_getElem?;intro i;have gj:es[j]? = some en:=by simpa using g1
     rw [Array.getElem?_toList,Array.getElem?_modify,List.getElem?_set];by_cases O:j=i
     . subst O;have ad:j<es.size:=(Array.getElem?_eq_some_iff.1 gj).1;rw [AQ rfl,AQ rfl,gj];simp [ad]
     . simp [O]
    rw [e];exact this
end maps
section strs
variable {P:Program} {n:Nat} {l:Sl} {S:wD->Prop} {tab:Tab} {ty:TypeId} {x y z:Operand} {t t' sz:Nat} {a:lB}
def Fj {k h:IntKind} {i:Int} (T:TabOk P tab) (O:Az tab t=some (.int k,sz)) (M:Az tab t'=some (.int h,o)) {U:IntKind} (V:ev l x=some (.int U i)) (X:h.wrap i=m):Bh P n l S (.convert t t' x) ty (.int h m):=by
 unfold Bh;intro b w Y pos after g Z _;have hu:P.underlying t=some (.int k):=(T _ _ _ O).under;have N:P.underlying t'=some (.int h):=(T _ _ _ M).under;subst X;simp [execOp,Z.ev V,convert,AA hu,AA N,gw,Conv.intToInt]
end strs
def K9 (i:Int) (h:0<=i) (G:i<=255):IntKind.u8.wrap i=i:=by rw [iG];simp [IntKind.signed,IntKind.bits];omega
def Ext.ext {a b c:wD} (h:Ext a b) (x:Ext b c):Ext a c:=h.trans x
def Fr.ext {S:nP} {a b c:wD} (h:Fr S a b) (x:Ext b c):Fr S a c:=h.trans (.of_ext x)
def Ext.fr {S:nP} {a b c:wD} (h:Ext a b) (x:Fr S b c) (M:∀k,S k->a.heap.size<=k):Ext a c:=
 ⟨x.os.trans (Below.os h),x.tape.trans (Below.tape h),x.output.trans (Below.output h),Nat.le_trans h.size x.size,
  λk G=>(x.block k (Nat.lt_of_lt_of_le G h.size) (λN=>by have:=M k N;omega)).trans (h.block G)⟩
def Fr.fr {S:nP} {a b c:wD} (h:Fr T a b) (x:Fr S b c) (N:∀k,S k->T k\/a.heap.size<=k):Fr T a c:=
 ⟨x.os.trans h.os,x.tape.trans h.tape,x.output.trans h.output,Nat.le_trans h.size x.size,
  λk G M=>(x.block k (Nat.lt_of_lt_of_le G h.size) (λO=>by rcases N k O with h|h;exact M h;omega)).trans (h.block k G M)⟩
def TB.fr {S:nP} {T:TypeId} (h:TB w b vs T) (x:Fr S w w') (G:¬S b):TB w' b vs T:=(x.block b h.blk.lt G).trans h
def Fr.weaken {S:nP} (h:Fr S w w') (k:∀b,S b->T b):Fr T w w':=⟨h.os,h.tape,h.output,h.size,λb G M=>h.block b G (λN=>M (k b N))⟩
section code
variable {P:Program} {n:Nat} {Q:Exit->Act->wD->Prop} {l:Sl} {w:wD} {c:Operand} {x y:Code}
def BN [Decidable p] [Decidable (¬p)] (G:ev l c=some (.bool (decide (¬p)))) (M:¬p->CW P n x Q l w) (N:p->CW P n y Q l w):CW P n (.cond c x y) Q l w:=
 Ay G M (λh=>N (Decidable.not_not.1 h))
def I9 {q:Bool} (h:ev l c=some (.bool (!q))) (G:q=false->CW P n x Q l w) (M:q=true->CW P n y Q l w):CW P n (.cond c x y) Q l w:=
 FF h (λe=>G (by simpa using e)) (λe=>M (by simpa using e))
variable {ops:Array Oper} {rest:List Oper} {tab:Tab} {d:Nat} {ty:TypeId} {pos:String} {after:Array Edge}
def BY {o:Oper} {g:Nat×Bool} [Decidable p] (_:o.guard=some g) (_:BC ops g.1=some b) (_:look l b=some (.bool (decide p))) (G:p->LW P n ops Q (o::rest) l w) (M:¬p->LW P n ops Q (o::rest) l w):LW P n ops Q (o::rest) l w:=by
 by_cases h:p
 . exact G h
 . exact M h
def N3 {o:Oper} {g:Nat×Bool} {b:Bool} (_:o.guard=some g) (_:BC ops g.1=some sz) (_:look l sz=some (.bool b)) (G:b=true->LW P n ops Q (o::rest) l w) (M:b=false->LW P n ops Q (o::rest) l w):LW P n ops Q (o::rest) l w:=by
 cases h:b
 . exact M h
 . exact G h
def cJ {a:Operand} (T:TabOk P tab) (h:Az tab t=some (s,sz)) (G:s.agg=false) (M:ev l a=some (.pointer (some ⟨b,o,none⟩)))
 (N:Blk w b vs) (O:vs[o]? = some v) (U:gM d n=true) (k:LW P n ops Q rest ((d,v)::l) w):LW P n ops Q (⟨some d,.load t a,ty,pos,after,none⟩::rest) l w:=
 Cy (Ap T h G M (λX V=>by subst V;exact N.cell O)) U k
def Dh {a:Operand} (T:TabOk P tab) (h:Az tab t=some (s,sz)) (G:s.agg=false) (M:ev l a=some (.pointer (some ⟨b,o+i,none⟩)))
 (N:Row w ⟨b,o,none⟩ vs) (O:vs[i]? = some v) (U:gM d n=true) (k:LW P n ops Q rest ((d,v)::l) w):LW P n ops Q (⟨some d,.load t a,ty,pos,after,none⟩::rest) l w:=
 Cy (Ap T h G M (λX V=>by subst V;exact N.at O)) U k
def Dp {a:Operand} (T:TabOk P tab) (h:Az tab t=some (s,sz)) (G:s.agg=false) (M:ev l a=some (.pointer (some ⟨b,o,none⟩)))
 (N:Row w ⟨b,o,none⟩ vs) (O:vs[0]? = some v) (U:gM d n=true) (k:LW P n ops Q rest ((d,v)::l) w):LW P n ops Q (⟨some d,.load t a,ty,pos,after,none⟩::rest) l w:=
 Cy (Ap T h G M (λX V=>by subst V;exact N.at0 O)) U k
def Rw {a:Operand} (T:TabOk P tab) (h:Az tab t=some (s,sz)) (G:s.agg=true) (M:ev l a=some (.pointer (some ⟨b,o,none⟩)))
 (N:Blk w b vs) (O:iy (o+sz) vs.length=true) (U:gM d n=true) (k:LW P n ops Q rest ((d,.agg ((vs.drop o).take sz).toArray)::l) w):LW P n ops Q (⟨some d,.load t a,ty,pos,after,none⟩::rest) l w:=
 Cy (EG T h G M (λX V=>by subst V;exact N) O) U k
def Rx {a:Operand} (T:TabOk P tab) (h:Az tab t=some (s,sz)) (G:s.agg=true) (M:ev l a=some (.pointer (some ⟨b,o+i,none⟩)))
 (N:Row w ⟨b,o,none⟩ vs) (O:iy (i+sz) vs.length=true) (U:gM d n=true) (k:LW P n ops Q rest ((d,.agg ((vs.drop i).take sz).toArray)::l) w):LW P n ops Q (⟨some d,.load t a,ty,pos,after,none⟩::rest) l w:=
 Cy (Iv T h G M (λX V=>by subst V;exact N) O) U k
def ZP {a:Operand} (T:TabOk P tab) (h:Az tab t=some (s,sz)) (G:s.agg=true) (M:ev l a=some (.pointer (some ⟨b,o,none⟩)))
 (N:Row w ⟨b,o,none⟩ vs) (O:vs.length=sz) (U:gM d n=true) (k:LW P n ops Q rest ((d,.agg vs.toArray)::l) w):LW P n ops Q (⟨some d,.load t a,ty,pos,after,none⟩::rest) l w:=
 Cy (BE T h G M (λX V=>by subst V;exact N) O) U k
end code
def Ja (ops:Array Oper) (j i:Nat):Bool:=match ops[j]? with
 | none=>false
 | some o=>o.after.any λe=>iw .any e&&iA e.on i
def DC (ops:Array Oper) (listed:Array Bool):Prop:= ∀k o,ops[k]? = some o->listed.getD k false=true -> ∀e∈o.after,iw .any e=true->listed.getD e.on false=true
def Em {j:Nat} (h:Ja c j i=true):∃o e,c[j]? = some o/\e∈o.after/\iw .any e=true/\e.on=i:=by
 unfold Ja at h;split at h
 . cases h
 . rename_i o M;obtain ⟨e,N,G⟩:=Array.any_eq_true'.1 h;simp only [gu] at G;exact ⟨o,e,M,N,G.1,ip G.2⟩
def D7 (ops:Array Oper) (K i:Nat):Prop:= ∀(listed:Array Bool) (j:Nat) (o:Oper),DC ops listed->K<=j->ops[j]? = some o->(∀e∈o.after,iw .any e=true->listed.getD e.on false=true)->listed.getD i false=true
def II (ops:Array Oper) (K:Nat):Bool:=((it K).all λi=>(List.range' (i+1) (K-i)).any λj=>Ja ops j i)&&((List.range' (K+1) (ops.size-(K+1))).all λj=>(List.range' K (j-K)).any λi=>Ja ops j i)
def DM {K:Nat} (h:II c K=true) (hK:K<c.size):∀i,i<K->D7 c K i:=by
 simp only [II,gu,List.all_eq_true,List.mem_range,List.any_eq_true,List.mem_range'_1] at h;obtain ⟨h1,h2⟩:=h;intro i hi M j o Z hj X G;have aa:∀m j o,j<=K+m->K<=j->c[j]? = some o->(∀e∈o.after,iw .any e=true->M.getD e.on false=true) -> ∀oK,c[K]? = some oK -> ∀e∈oK.after,iw .any e=true->M.getD e.on false=true:=by
  intro m
  induction m with
  | zero=>
   intro j o hm hj X G oK N;have:j=K:=by omega
   subst this;rw [X] at N;obtain rfl:=gB N;exact G
  | succ m ih=>
   intro j o hm hj X G oK N;by_cases Y:j=K
   . subst Y;rw [X] at N;obtain rfl:=gB N;exact G
   . have ad:j<c.size:=(Array.getElem?_eq_some_iff.1 X).1;obtain ⟨i',ab,hw⟩:=h2 j (by omega);obtain ⟨oj,e,O,he,hb,U⟩:=Em hw;rw [X] at O;obtain rfl:=gB O;have hl:=G e he hb;rw [U] at hl;have V:i'<c.size:=by omega
     exact ih i' c[i'] (by omega) ab.1 (Array.getElem?_eq_getElem V) (Z i' _ (Array.getElem?_eq_getElem V) hl) oK N
 have ac:=aa (j-K) j o (by omega) hj X G c[K] (Array.getElem?_eq_getElem hK);have key:∀d i,K-i<=d->i<K->M.getD i false=true:=by
  intro d
  induction d with
  | zero=>intro i h hi;omega
  | succ d ih=>
   intro i hd hi;obtain ⟨j',ae,hw⟩:=h1 i hi;obtain ⟨oj,e,O,he,hb,U⟩:=Em hw;by_cases Y:j'=K
   . subst Y;rw [Array.getElem?_eq_getElem hK] at O;obtain rfl:=gB O;have:=ac e he hb;rwa [U] at this
   . have hl:=ih j' (by omega) (by omega);have:=Z j' oj O hl e he hb;rwa [U] at this
 exact key (K-i) i (gI _) hi
section
variable {P:Program} {ops:Array Oper} {Q:Exit->Act->wD->Prop} {S:wD->Prop} {K:Nat}
def G8 (P:Program) (ops:Array Oper) (Q:Exit->Act->wD->Prop) (S:wD->Prop) (K:Nat):Nat->Array Bool->Act->wD->Prop
 | 0,listed,a,w=>gQ .any ops listed=[]/\Q .normal a w
 | fuel+1,listed,a,w=>
  (gQ .any ops listed=[]->Q .normal a w) /\
  ∀i∈gQ .any ops listed,wpOp P ops Q i (λa' w'=>(i<K->S w')/\G8 P ops Q S K fuel (listed.setIfInBounds i true) a' w') a w
def IJ:∀(G:Nat) (M:Array Bool) (a:Act) (w:wD),G8 P ops Q S K G M a w->wpAny P .any ops Q G M a w
 | 0,_,_,_,h=>h
 | G+1,_,_,_,h=>⟨h.1,λi N=>wpOp_mono (λO w' U=>IJ G _ O w' U.2) (h.2 i N)⟩
def DC.set {G:Array Bool} (h:DC ops G) {j:Nat} (hj:j∈gQ .any ops G):DC ops (G.setIfInBounds j true):=by
 obtain ⟨Y,oj,U,M⟩:=mem_ready.1 hj;intro k o V Z e he hb;have key:G.getD e.on false=true:=by
  by_cases N:j=k
  . subst N;rw [U] at V;obtain rfl:=gB V;exact M e he hb
  . refine h k o V ?_ e he hb;rw [getD_set_ne false N] at Z;exact Z
 by_cases O:j=e.on
 . subst O;rcases gK e.on G.size with X|X
   . simp [X]
   . simp [iv X] at key
 . rw [getD_set_ne false O];exact key
def N4 (hi:ops[i]? = some oi) (hK:i<K) (ag:D7 ops K i) (Y:∀(j:Nat) (o:Oper) cs b,ops[j]? = some o->o.op≠.select cs b)
 (hQ:∀c a w,Q (.panic c) (a.put oi.dst v) w->Q (.panic c) a w) :
 ∀(M:Nat) (G:Array Bool) (a:Act) (w:wD),DC ops G ->
  (∀j Z,ops[j]? = some Z->j≠i->G.getD j true=false->(∀e∈Z.after,iw .any e=true->e.on≠i)->oi.apart ops Z=true) ->
  i∈gQ .any ops G->YieldsIf P ops S oi v a->S w ->
  G8 P ops Q S K M (G.setIfInBounds i true) (a.put oi.dst v) w->G8 P ops Q S K (M+1) G a w:=by
 intro M
 induction M with
 | zero=>
  intro G a w _ _ hr hy hS H;refine ⟨λh=>(by rw [h] at hr;cases hr),λj hj=>?_⟩;by_cases N:j=i
  . subst N;exact hy.wpOp hi hS ⟨λ_=>hS,H⟩
  . have:=ready_mono hj N;rw [H.1] at this;cases this
 | succ M ih=>
  intro G a w ac O hr hy hS H;refine ⟨λh=>(by rw [h] at hr;cases hr),λj hj=>?_⟩;by_cases N:j=i
  . subst N;exact hy.wpOp hi hS ⟨λ_=>hS,H⟩
  . have h1:=H.2 j (ready_mono hj N);obtain ⟨aa,Z,V,ab⟩:=mem_ready.1 hj;have U:¬G.getD i false=true:=λhc=>by
     have h0:=(mem_ready.1 hr).1;rcases gK i G.size with h'|h'
     . simp [h'] at h0 hc;rw [h0] at hc;cases hc
     . simp [iv h'] at hc
    have ad:j<K:=by
     rcases gK j K with h|h
     . exact h
     . exact absurd (ag G j Z ac h V ab) U
    have ae:∀e∈Z.after,iw .any e=true->e.on≠i:=λe he hb ah=>U (ah▸ab e he hb)
    have h2:=wpOp_putIf V (O j Z V N aa ae) (λcs b=>Y i oi cs b hi) (λcs b=>Y j Z cs b V) hQ hy h1;have X:∀k ok,ops[k]? = some ok->k≠i->(G.setIfInBounds j true).getD k true=false ->
     (∀e∈ok.after,iw .any e=true->e.on≠i)->oi.apart ops ok=true:=λk ok hk ai U aj=>by
     refine O k ok hk ai ?_ aj;by_cases af:j=k
     . subst af;exact aa
     . rw [getD_set_ne true af] at U;exact U
    refine wpOp_mono (λa' w' h3=>⟨λ_=>h3.2.1 ad,ih (G.setIfInBounds j true) a' w' (ac.set hj) X (ready_mono hr (Ne.symm N)) h3.1 (h3.2.1 ad) ?_⟩) h2;rw [Array.setIfInBounds_comm _ _ N];exact h3.2.2
end
inductive Sc where
 | done
 | pure (i:Nat) (r:Sc)
 | fork (i:Nat) (x r:Sc)
 | none
 | tail
def Sc.alts:Sc->List Nat
 | .fork i _ r=>i::r.alts
 | _=>[]
def E1 (ops:Array Oper):Nat->Nat->Array Bool->Bool
 | 0,_,listed=>(gQ .any ops listed).isEmpty
 | f+1,k,listed=>(gQ .any ops listed==[k])&&E1 ops f (k+1) (listed.setIfInBounds k true)
def Sc.ok (ops:Array Oper) (K:Nat):Bool->Sc->Nat->Array Bool->Bool
 | true,.done,_,listed=>(gQ .any ops listed).isEmpty
 | true,.pure i r,f+1,listed=>gM i K&&(gQ .any ops listed).contains i&&Region.free .any ops listed i&&Sc.ok ops K true r f (listed.setIfInBounds i true)
 | true,.fork i x r,f+1,listed=>(gQ .any ops listed).all (λj=>(i::r.alts).contains j)&&(gQ .any ops listed).contains i&&Sc.ok ops K true x f (listed.setIfInBounds i true)&&Sc.ok ops K false r (f+1) listed
 | true,.tail,f,listed=>iA (f+K) ops.size&&E1 ops f K listed
 | false,.fork i x r,f+1,listed=>(gQ .any ops listed).contains i&&Sc.ok ops K true x f (listed.setIfInBounds i true)&&Sc.ok ops K false r (f+1) listed
 | false,.none,_,_=>true
 | _,_,_,_=>false
def HT (P:Program) (ops:Array Oper) (Q:Exit->Act->wD->Prop) (S:wD->Prop) (K:Nat):Sc->Act->wD->Prop
 | .done,a,w=>Q .normal a w
 | .pure i r,a,w=> ∃o v,ops.toList[i]? = some o/\YieldsIf P ops S o v a/\HT P ops Q S K r (a.put o.dst v) w
 | .fork i x r,a,w=>wpOp P ops Q i (λa' w'=>S w'/\HT P ops Q S K x a' w') a w/\HT P ops Q S K r a w
 | .none,_,_=>True
 | .tail,a,w=>wpList P ops Q (ops.toList.drop K) a w
def JQ {P:Program} {ops:Array Oper} {Q:Exit->Act->wD->Prop} {S:wD->Prop} {K:Nat}:∀(f k:Nat) (G:Array Bool) (a:Act) (w:wD),K<=k->f+k=ops.size->E1 ops f k G=true->wpList P ops Q (ops.toList.drop k) a w->G8 P ops Q S K f G a w
 | 0,k,G,a,w,V,X,M,h=>by
  have:ops.toList.drop k=[]:=List.drop_eq_nil_of_le (by simp;omega);rw [this] at h;exact ⟨by simpa [E1] using M,h⟩
 | f+1,k,G,a,w,V,X,M,h=>by
  simp only [E1,gu,beq_iff_eq] at M;have N:k<ops.toList.length:=by simp;omega
  rw [gW N] at h;refine ⟨λe=>absurd (M.1.symm.trans e) (by simp),λi O=>?_⟩;rw [M.1] at O;simp only [ia] at O;subst O;have Y:ops[i]? = some ops.toList[i]:=by simp
  unfold wpList at h;unfold wpOp;rw [Y];simp only;split
  . rename_i U;rw [AQ U] at h;rcases h with h|h
    . exact gq (Oper.wp_mono (λZ w' h'=>⟨λN=>by omega,JQ f (i+1) _ Z w' (by omega) (by omega) M.2 h'⟩) h)
    . exact gt h
  . rename_i U;rw [AB U] at h;exact ⟨λN=>by omega,JQ f (i+1) _ _ w (by omega) (by omega) M.2 h⟩
def HT.any {P:Program} {ops:Array Oper} {Q:Exit->Act->wD->Prop} {S:wD->Prop} {K:Nat} (hs:Region.noSelect ops=true) (O:∀i,i<K->D7 ops K i) (hQ:C5 Q) :
 ∀(s:Sc) (f:Nat) (G:Array Bool) (a:Act) (w:wD),DC ops G->S w->HT P ops Q S K s a w ->
  (Sc.ok ops K true s f G=true->G8 P ops Q S K f G a w) /\
  (Sc.ok ops K false s f G=true -> ∀i∈s.alts,∀f',f=f'+1->wpOp P ops Q i (λZ w'=>(i<K->S w')/\G8 P ops Q S K f' (G.setIfInBounds i true) Z w') a w)
 | .done,f,G,a,w,N,U,h=>by
  refine ⟨λM=>?_,λM=>by simp [Sc.ok] at M⟩;have X:gQ .any ops G=[]:=by simpa [Sc.ok] using M
  cases f with
  | zero=>exact ⟨X,h⟩
  | succ f=>exact ⟨λ_=>h,by rw [X];simp⟩
 | .none,f,G,a,w,N,U,h=>⟨λM=>by simp [Sc.ok] at M,λM=>by simp [Sc.alts]⟩
 | .tail,f,G,a,w,N,U,h=>⟨λM=>by
  simp only [Sc.ok,gu] at M;exact JQ f K G a w (gI _) (ip M.1) M.2 h,λM=>by simp [Sc.ok] at M⟩
 | .pure i r,0,G,a,w,N,U,h=>⟨λM=>by simp [Sc.ok] at M,λM=>by simp [Sc.ok] at M⟩
 | .pure i r,f+1,G,a,w,N,U,h=>⟨λM=>by
  simp only [Sc.ok,gu] at M;obtain ⟨o,v,ho,hy,X⟩:=h;have hi:ops[i]? = some o:=by simpa using ho
  have V:i∈gQ .any ops G:=by simpa using M.1.1.2
  exact N4 hi (gS M.1.1.1) (O i (gS M.1.1.1)) (Region.noSelect_spec hs) (λc a w=>hQ o.dst v c a w) f G a w N (Region.free_spec hi M.1.2) V hy U
   ((HT.any hs O hQ r f _ _ w (N.set V) U X).1 M.2),λM=>by simp [Sc.ok] at M⟩
 | .fork i x r,0,G,a,w,N,U,h=>⟨λM=>by simp [Sc.ok] at M,λM=>by simp [Sc.ok] at M⟩
 | .fork i x r,f+1,G,a,w,N,U,h=>by
  have key:i∈gQ .any ops G->Sc.ok ops K true x f (G.setIfInBounds i true)=true->wpOp P ops Q i (λZ w'=>(i<K->S w')/\G8 P ops Q S K f (G.setIfInBounds i true) Z w') a w:=λV M=>
   wpOp_mono (λZ w' h'=>⟨λ_=>h'.1,(HT.any hs O hQ x f _ Z w' (N.set V) h'.1 h'.2).1 M⟩) h.1
  have X:=HT.any hs O hQ r (f+1) G a w N U h.2;refine ⟨λM=>?_,λM j Y f' hf=>?_⟩
  . simp only [Sc.ok,gu] at M;obtain ⟨⟨⟨h1,h4⟩,h2⟩,h3⟩:=M;refine ⟨λe=>by rw [e] at h4;simp at h4,λj Y=>?_⟩;have:=List.all_eq_true.1 h1 j Y;simp only [List.contains_eq_mem,ik,decide_eq_true_eq] at this;rcases this with rfl|aa
    . exact key Y h2
    . exact X.2 h3 j aa f rfl
  . simp only [Sc.ok,gu] at M;obtain rfl:f=f':=by omega
    simp only [Sc.alts,ik] at Y;rcases Y with rfl|Y
    . exact key (by simpa using M.1.1) M.1.2
    . exact X.2 M.2 j Y f rfl
def Ll {α:Type}:Nat->List α->Option (List α)
 | 0,l=>some l
 | _+1,[]=>some []
 | k+1,_::l=>Ll k l
def Gx {α:Type}:∀ {k:Nat} {l m:List α},Ll k l=some m->l.drop k=m
 | 0,l,m,h=>by simpa [Ll] using h
 | _+1,[],m,h=>by simpa [Ll] using h
 | k+1,_::l,m,h=>by simpa using Gx (k:=k) (l:=l) h
def Gc [Decidable p] (h:p):(decide p==true)=true:=by simp [h]
def DN [Decidable p] (h:¬p):(decide p==true)=false:=by simp [h]
def Nb [Decidable p] (h:p):(decide p==false)=false:=by simp [h]
def Gd [Decidable p] (h:¬p):(decide p==false)=true:=by simp [h]
def G9 {b:Bool} (h:b=true):(b==true)=true:=by simp [h]
def Ha {b:Bool} (h:b=false):(b==true)=false:=by simp [h]
def Nc {b:Bool} (h:b=true):(b==false)=false:=by simp [h]
def Nf {b:Bool} (h:b=false):(b==false)=true:=by simp [h]
def TW (P:Program) (n:Nat) (ops:Array Oper) (Q:Exit->Act->wD->Prop) (S:wD->Prop) (K:Nat) (s:Sc) (l:Sl) (w:wD):Prop:= ∀a,Env n l a->HT P ops Q S K s a w
section draws
variable {P:Program} {n:Nat} {ops:Array Oper} {Q:Exit->Act->wD->Prop} {S:wD->Prop} {K:Nat} {l:Sl} {w:wD}
 {d i:Nat} {ty:TypeId} {pos:String} {after:Array Edge} {r x:Sc}
def Aq (S:wD->Prop) (K:Nat) (s:Sc) (hm:P.follows .mixedOrders=true) (N:(Region.noSelect G.toArray&&(iy G.length K||II G.toArray K)&&Sc.ok G.toArray K true s G.length (iD G.length false))=true) (hQ:C5 Q)
 (h:∀w1,Ext w w1->w1.heap=w.heap->S w1/\TW P n G.toArray Q S K s l w1):CW P n (.region b G.toArray true) Q l w:=by
 unfold CW;intro a ha;simp only [gu] at N;obtain ⟨h1,h2⟩:=h w.drew (Ext.refl w).drew rfl;have U:∀i,i<K->D7 G.toArray K i:=by
  by_cases Y:K<G.toArray.size
  . have M:=N.1.2;simp only [Bool.or_eq_true] at M;rcases M with M|M
    . have:=gS M;simp at Y;omega
    . exact DM M Y
  . intro i hi O j o _ hj ho _;have aa:j<G.toArray.size:=(Array.getElem?_eq_some_iff.1 ho).1;omega
 have V:DC G.toArray (iD G.length false):=λk o _ M=>by
  exfalso;rcases gK k G.length with X|X
  . simp [X] at M
  . simp [iv,X] at M
 refine wp_region_any hm (IJ (S:=S) (K:=K) _ _ _ _ ?_);have:=(HT.any N.1.1 U hQ s G.length (iD G.length false) a w.drew V h1 (h2 a ha)).1 N.2;simpa using this
def Yf (h:QW n Q .normal l w):TW P n ops Q S K .done l w:=by unfold QW at h;exact h
def AD:TW P n ops Q S K .none l w:=λ_ _=>trivial
def At (M:Ll K ops.toList=some G) (h:LW P n ops Q G l w):TW P n ops Q S K .tail l w:=by
 unfold LW at h;intro a N;show wpList P ops Q (ops.toList.drop K) a w;rw [Gx M];exact h a N
def Yg (M:ops.toList[i]? = some ⟨some d,op,ty,pos,after,none⟩) (h:Bh P n l S op ty v) (N:gM d n=true) (k:TW P n ops Q S K r ((d,v)::l) w) :
 TW P n ops Q S K (.pure i r) l w:=by
 unfold Bh at h;exact λa G=>⟨_,v,M,gq ⟨rfl,λw O=>h a w _ _ _ _ G O⟩,k _ (G.put N v)⟩
def Kw {j:Nat} {b:Bool} (N:ops.toList[i]? = some ⟨some d,op,ty,pos,after,some (j,h)⟩) (O:BC ops j=some sz) (U:gM sz n=true) (V:look l sz=some (.bool b)) (X:(b==h)=true)
 (M:Bh P n l S op ty v) (Y:gM d n=true) (k:TW P n ops Q S K r ((d,v)::l) w):TW P n ops Q S K (.pure i r) l w:=by
 unfold Bh at M;exact λa G=>⟨_,v,N,gq ⟨by rw [Ga G rfl O U V,X],λw Z=>M a w _ _ _ _ G Z⟩,k _ (G.put Y v)⟩
def DH {j:Nat} {b:Bool} (M:ops.toList[i]? = some ⟨some d,op,ty,pos,after,some (j,h)⟩) (N:BC ops j=some sz) (O:gM sz n=true) (U:look l sz=some (.bool b)) (V:(b==h)=false)
 (X:gM d n=true) (k:TW P n ops Q S K r ((d,undef)::l) w):TW P n ops Q S K (.pure i r) l w:=λa G=>
 ⟨_,undef,M,gt ⟨by rw [Ga G rfl N O U,V],rfl⟩,k _ (G.put X undef)⟩
def AE {G:Option Value->wD->Prop} (V:ops.toList[i]? = some ⟨some d,op,ty,pos,after,none⟩) (O:BD P n l op ty w G) (X:gM d n=true)
 (k:∀v w1,G (some v) w1->S w1/\TW P n ops Q S K x ((d,v)::l) w1) (Y:∀w1,¬G none w1) (Z:TW P n ops Q S K r l w):TW P n ops Q S K (.fork i x r) l w:=λa M=>by
 unfold BD at O;refine ⟨?_,Z a M⟩;have N:ops[i]? = some ⟨some d,op,ty,pos,after,none⟩:=by simpa using V
 unfold wpOp;rw [N];simp only;rw [AQ (Bc rfl)];left;exact O a _ _ _ _ _ _ M (λv w1 U=>⟨(k v w1 U).1,(k v w1 U).2 _ (M.put X v)⟩) (λw1 h=>absurd h (Y w1))
def Lm {j:Nat} {G b:Bool} (X:ops.toList[i]? = some ⟨some d,op,ty,pos,after,some (j,G)⟩) (Y:BC ops j=some sz) (Z:gM sz n=true) (hb:look l sz=some (.bool b)) (hw:(b==G)=true) (U:BD P n l op ty w N) (hd:gM d n=true)
 (k:∀v w1,N (some v) w1->S w1/\TW P n ops Q S K x ((d,v)::l) w1) (k0:∀w1,¬N none w1) (kr:TW P n ops Q S K r l w):TW P n ops Q S K (.fork i x r) l w:=λa M=>by
 unfold BD at U;refine ⟨?_,kr a M⟩;have O:ops[i]? = some ⟨some d,op,ty,pos,after,some (j,G)⟩:=by simpa using X
 unfold wpOp;rw [O];simp only;rw [AQ (by rw [Ga M rfl Y Z hb,hw])];left;exact U a _ _ _ _ _ _ M (λv w1 V=>⟨(k v w1 V).1,(k v w1 V).2 _ (M.put hd v)⟩) (λw1 h=>absurd h (k0 w1))
def VE (V:ops.toList[i]? = some ⟨none,op,ty,pos,after,none⟩) (O:BD P n l op ty w N)
 (k:∀v w1,N v w1->S w1/\TW P n ops Q S K x l w1) (X:TW P n ops Q S K r l w):TW P n ops Q S K (.fork i x r) l w:=λa G=>by
 unfold BD at O;refine ⟨?_,X a G⟩;have M:ops[i]? = some ⟨none,op,ty,pos,after,none⟩:=by simpa using V
 unfold wpOp;rw [M];simp only;rw [AQ (Bc rfl)];left;exact O a _ _ _ _ _ _ G (λv w1 U=>⟨(k _ w1 U).1,(k _ w1 U).2 _ G⟩) (λw1 h=>⟨(k _ w1 h).1,(k _ w1 h).2 _ G⟩)
end draws
def SP {tab:Tab} {ty:Nat} (h:fn.results = #[.cell t ty]) (T:TabOk P tab) (M:Az tab ty=some (s,sz)) (O:s.agg=true) (U:look l t=some (.pointer (some ⟨b,0,none⟩))) (V:Blk w b vs) (X:vs.length=sz)
 (Y:R (.returned (.agg vs.toArray)) w):QW n (bodyPost P fn R) .ret l w:=by
 unfold QW;intro a N;refine ⟨N.defers,.agg vs.toArray,?_,Y⟩;have e:(loadVar ty ⟨b,0,none⟩).run P w = .ok (.agg vs.toArray) w:=by
  simp only [gE,gP,gw,loadVar,Co (T _ _ _ M),O,if_true,B3 (T _ _ _ M)];rw [<-X,Cr V.row]
 have G:=N.has t _ U;simp only [Array.getD_eq_getD_getElem?] at G;simp [results,h,G,e,asAddr]
attribute [irreducible] TW
section
variable {P:Program} {n:Nat} {l:Sl} {S:wD->Prop} {tab:Tab} {ty:TypeId} {x y:Operand} {t t' sz:Nat}
def JR {f h:Nat} (T:TabOk P tab) (U:Az tab t=some (.struct O,sz)) (V:O[f]? = some (h,b)) (N:Az tab b=some (s,o)) (X:s.agg=false)
 (Y:ev l x=some (.agg vs.toArray)) (Z:vs[h]? = some v):Bh P n l S (.field t x f) ty v:=by
 unfold Bh;intro a w aa pos after g ha _;obtain ⟨gs,h1,-,h2⟩:=(T _ _ _ U).under;obtain ⟨fd,h3,h4,h5,-⟩:=h2 f h b V;have e:(Instr.field t (.agg vs.toArray) f).run P w = .ok v w:=by
  simp only [Instr.field,gE,AA h1,gw,h3,asAgg,gP,part,h5,h4,Co (T _ _ _ N),X];simp [Z]
 simp [execOp,ha.ev Y,e]
def DR {h:List (Nat×Nat)} {xs:List (Nat×Operand)} {ps:List (Nat×Value)} {G:List (Nat×Nat×lV)} {zt:Ei} (out:lV) (T:TabOk P tab) (Z:Ch P zt)
 (M:Az tab t=some (.struct h,sz)) (N:Cz zt t=some zs) (O:IF tab h l xs=some (ps,G)) (U:Iu G zs=some out):Bh P n l S (.build t xs.toArray) ty (.agg out.toArray):=TP T Z M N O U
def BP (us:lV) (T:TabOk P tab) (h:Az tab t=some (s,sz)) (G:s.agg=true) (M:ev l x=some (.pointer (some ⟨b,o,none⟩)))
 (N:∀w,S w->Blk w b vs) (O:iy (o+sz) vs.length=true) (U:(vs.drop o).take sz=us):Bh P n l S (.load t x) ty (.agg us.toArray):=by subst U;exact EG T h G M N O
def CK (us:lV) (T:TabOk P tab) (h:Az tab t=some (s,sz)) (G:s.agg=true) (M:ev l x=some (.pointer (some ⟨b,o+i,none⟩)))
 (N:∀w,S w->Row w ⟨b,o,none⟩ vs) (O:iy (i+sz) vs.length=true) (U:(vs.drop i).take sz=us):Bh P n l S (.load t x) ty (.agg us.toArray):=by subst U;exact Iv T h G M N O
def Gy {a:Act} (M:Env n l a) {j:Nat} {o:Oper} (O:o.guard=some (j,h)) (U:BC c j=some b) (V:gM b n=true) (X:look l b=some undef) :
 Region.wanted o (yielded c a.tmps)=false:=by
 have N:=M.has b _ X;have G:b<a.tmps.size:=by rw [M.size];exact gS V
 have Y:a.tmps[b]? = some undef:=by
  rw [Array.getD_eq_getD_getElem?,Array.getElem?_eq_getElem G] at N;rw [Array.getElem?_eq_getElem G];simpa using N
 have Z:(c[j]?).bind (·.dst)=some b:=by simpa [BC] using U
 unfold Region.wanted yielded;simp only [O,Z,Option.bind_some,Y];cases h<;>rfl
section rules
variable {w:wD} {ops:Array Oper} {Q:Exit->Act->wD->Prop} {rest:List Oper} {d:Nat} {pos:String} {after:Array Edge}
def Dl (vs:lV) (h:ev l x=some v) (G:v.cells=vs.toArray) (M:gM d n=true)
 (k:∀b w1,New w w1 b vs->LW P n ops Q rest ((d,.pointer (some ⟨b,0,none⟩))::l) w1):LW P n ops Q (⟨some d,.box t x,ty,pos,after,none⟩::rest) l w:=Li h G M k
def En {zt:Ei} (vs:lV) (Z:Ch P zt) (h:Cz zt t=some vs) (G:gM d n=true)
 (k:∀b w1,New w w1 b vs->LW P n ops Q rest ((d,.pointer (some ⟨b,0,none⟩))::l) w1):LW P n ops Q (⟨some d,.alloc t,ty,pos,after,none⟩::rest) l w:=G6 Z h G k
def JS (us h:lV) (T:TabOk P tab) (G:Az tab t=some (s,sz)) (M:ev l x=some (.pointer (some ⟨b,o,none⟩))) (N:ev l y=some v)
 (O:v.cells=us.toArray) (U:us.length=sz) (V:us.all Value.one=true) (X:Blk w b vs) (Y:iy (o+us.length) vs.length=true) (Z:A8 vs o us=h)
 (k:∀w1,Put w w1 b h->LW P n ops Q rest l w1):LW P n ops Q (⟨none,.store t x y,ty,pos,after,none⟩::rest) l w:=by
 subst Z;exact Lj T G M N O U V X Y k
def Dq (us:lV) (T:TabOk P tab) (h:Az tab t=some (s,sz)) (G:ev l x=some (.pointer (some ⟨b,0,none⟩))) (M:ev l y=some v)
 (N:v.cells=us.toArray) (O:us.length=sz) (U:us.all Value.one=true) (V:New w0 w b vs) (X:us.length=vs.length)
 (k:∀w1,New w0 w1 b us->LW P n ops Q rest l w1):LW P n ops Q (⟨none,.store t x y,ty,pos,after,none⟩::rest) l w:=I5 T h G M N O U V X k
def C2 {h len:Nat} {zt:Ei} (cs:lV) (T:TabOk P tab) (Z:Ch P zt) (M:Az tab t=some (.slice e,sz)) (N:Az tab e=some (s,h))
 (O:Cz zt e=some zs) (U:Gw l 0 ps=some vs) (V:vs.length=len) (X:vs.all (λv=>iA v.cells.size h)=true) (Y:iy (len*h) 10000=true) (G:gM 0 (len*h)=true) (he:(vs.map (·.cells.toList)).flatten=cs) :
 BD P n l (.buildSlice t len ps.toArray) ty w (N1 w len cs e):=by subst he;exact Rv T Z M N O U V X Y G
def A3 (us:lV) (T:TabOk P tab) (h:Az tab t=some (s,sz)) (G:s.agg=true) (M:ev l x=some (.pointer (some ⟨b,o,none⟩)))
 (N:Blk w b vs) (O:iy (o+sz) vs.length=true) (U:(vs.drop o).take sz=us) (V:gM d n=true) (k:LW P n ops Q rest ((d,.agg us.toArray)::l) w):LW P n ops Q (⟨some d,.load t x,ty,pos,after,none⟩::rest) l w:=by
 subst U;exact Rw T h G M N O V k
def BO (us:lV) (T:TabOk P tab) (h:Az tab t=some (s,sz)) (G:s.agg=true) (M:ev l x=some (.pointer (some ⟨b,o+i,none⟩)))
 (N:Row w ⟨b,o,none⟩ vs) (O:iy (i+sz) vs.length=true) (U:(vs.drop i).take sz=us) (V:gM d n=true) (k:LW P n ops Q rest ((d,.agg us.toArray)::l) w):LW P n ops Q (⟨some d,.load t x,ty,pos,after,none⟩::rest) l w:=by
 subst U;exact Rx T h G M N O V k
def De {K:Nat} {r M:Sc} (us G:lV) (N:ops.toList[i]? = some ⟨none,.store t x y,ty,pos,after,none⟩) (T:TabOk P tab) (O:Az tab t=some (s,sz)) (U:ev l x=some (.pointer (some ⟨b,o,none⟩))) (V:ev l y=some v)
 (X:v.cells=us.toArray) (Y:us.length=sz) (Z:us.all Value.one=true) (hb:Blk w b vs) (ho:iy (o+us.length) vs.length=true) (he:A8 vs o us=G)
 (k:∀w1,Put w w1 b G->S w1/\TW P n ops Q S K M l w1) (kr:TW P n ops Q S K r l w):TW P n ops Q S K (.fork i M r) l w:=by
 subst he;exact VE N (Do T O U V X Y Z hb ho) (λv w1 h=>by cases v with|none=>exact k w1 h|some _=>exact h.elim) kr
def Hb {j:Nat} (M:BC ops j=some b) (N:gM b n=true) (O:look l b=some undef) (U:gM d n=true)
 (k:LW P n ops Q rest ((d,undef)::l) w):LW P n ops Q (⟨some d,op,ty,pos,after,some (j,h)⟩::rest) l w:=by
 unfold LW at k ⊢;intro a G;unfold wpList;rw [Gy G rfl M N O];exact k _ (G.put U undef)
def Ds {K j:Nat} {r:Sc} (M:ops.toList[i]? = some ⟨some d,op,ty,pos,after,some (j,h)⟩) (N:BC ops j=some b) (O:gM b n=true) (U:look l b=some undef) (V:gM d n=true)
 (k:TW P n ops Q S K r ((d,undef)::l) w):TW P n ops Q S K (.pure i r) l w:=by
 unfold TW at k ⊢;exact λa G=>⟨_,undef,M,gt ⟨Gy G rfl N O U,rfl⟩,k _ (G.put V undef)⟩
end rules
def SQ {a b:Int} (G:ev l x=some (.int .i64 a)) (M:ev l y=some (.int .i64 b)) (N:max a b=m):Bh P n l S (.call ⟨.builtin .max,#[x,y],#[t,t']⟩) ty (.int .i64 m):=by
 unfold Bh;intro c w O pos after g h _;have e:(if b>a then b else a)=m:=by rw [<-N];split<;>omega
 simp [execOp,resolve,invoke,builtin,Builtin.max_,Builtin.max2,h.ev G,h.ev M,e]
def Gz {k:IntKind} {a b c:Int} (G:ev l x=some (.int k a)) (M:ev l y=some (.int k b)) (N:b≠0) (O:k.wrap (a.tdiv b)=c):Bh P n l S (.binOp .quo t x y t') ty (.int k c):=by
 unfold Bh;intro d w U pos after g h _;subst O;simp [execOp,h.ev G,h.ev M,Bs,binOp,Op.intDiv,N]
def La {k:IntKind} {a b c:Int} (G:ev l x=some (.int k a)) (M:ev l y=some (.int k b)) (N:b≠0) (O:a.tmod b=c):Bh P n l S (.binOp .rem t x y t') ty (.int k c):=by
 unfold Bh;intro d w U pos after g h _;subst O;simp [execOp,h.ev G,h.ev M,Bs,binOp,Op.intDiv,N]
def Yh {a b:Int} (h:0<=a) (M:a<=9223372036854775807) (G:0<b):IntKind.i64.wrap (a.tdiv b)=a/b:=by
 rw [Int.tdiv_eq_ediv_of_nonneg h];have N:=Int.ediv_nonneg h (Int.le_of_lt G);have O:=Int.ediv_le_self b h;exact gz _ (by omega)
def Yi {a b:Int} (h:0<=a):a.tmod b=a%b:=Int.tmod_eq_emod_of_nonneg h
def Jb (i:Int) (h:0<=i) (G:i<=18446744073709551615):IntKind.u64.wrap i=i:=by rw [iG];simp [IntKind.signed,IntKind.bits];omega
end
section
variable {P:Program} {n d:Nat} {ops:Array Oper} {Q:Exit->Act->wD->Prop} {rest:List Oper} {l:Sl} {w:wD} {ty:TypeId} {pos:String} {after:Array Edge} {S:wD->Prop}
def cN {y:Code} (h:LW P n G.toArray (Exit.then (y.wp P Q) Q) G l w):LW P n ops (Exit.then ((Code.seq (.region b G.toArray false) y).wp P Q) Q) [] l w:=Ak (Ai (Aj (Al h)))
def cT {y:Code} (h:CW P n y Q l w):LW P n ops (Exit.then (y.wp P Q) Q) [] l w:=Ak (Ai h)
def cS {y:Code} (h:LW P n G.toArray (Exit.then (y.wp P Q) Q) G l w):CW P n (.seq (.region b G.toArray false) y) Q l w:=Aj (Al h)
def cR {tys:Array TypeId} (M:BT P f=true) (G:evs l xs=some vs) (C:Calls P f vs.toArray w R) (N:∀e w1,R e w1 -> ∃v,e = .returned v) (O:gM d n=true)
 (k:∀v w1,ZO R (some v) w1->LW P n ops Q rest ((d,v)::l) w1):LW P n ops Q (⟨some d,.call ⟨.value (.func f),xs.toArray,tys⟩,ty,pos,after,none⟩::rest) l w:=
 Ax (AR M G C N) O k (λ_ h=>h)
def cC {tys:Array TypeId} {v0:Value} {R:wD->Prop} (G:evs l xs=some vs) (C:Calls P f vs.toArray w (λe w'=>e = .returned v0/\R w'))
 (k:∀v w1,ZO (λe w'=>e = .returned v0/\R w') (some v) w1->LW P n ops Q rest ((d,v)::l) w1) (M:BT P f=true:=by kernel_rfl) (N:gM d n=true:=by exact rfl):LW P n ops Q (⟨some d,.call ⟨.value (.func f),xs.toArray,tys⟩,ty,pos,after,none⟩::rest) l w:=
 Ax (AR M G C (λ_ _ h=>⟨_,h.1⟩)) N k (λ_ h=>h)
def Mv (h:ev l x=some v:=by exact rfl):Bh P n l S (.move x) ty v:=Ar h
def Pa (h:ev l x=some v:=by exact rfl):Bh P n l S (.assign x) ty v:=Gv h
def Pn {a:Addr} (h:ev l x=some (.pointer (some a)):=by exact rfl):Bh P n l S (.nilCheck x) ty (.pointer (some a)):=BG h
def Pf {s f h:Nat} (N:ev l x=some (.pointer (some ⟨b,o,none⟩)):=by exact rfl) (G:Az tab s=some (.struct O,sz):=by exact rfl) (U:O[f]? = some (h,t):=by exact rfl) :
 Bh prog n l S (.fieldAddr s x f) ty (.pointer (some ⟨b,o+h,none⟩)):=AZ Ac N G U
def Pg {s f:Nat} {h:List (Nat×Nat)} (M:ev l x=some (.pointer (some ⟨b,o,none⟩)):=by exact rfl) (N:Az tab s=some (.struct h,sz):=by exact rfl) (O:h[f]? = some (0,t):=by exact rfl) :
 Bh prog n l S (.fieldAddr s x f) ty (.pointer (some ⟨b,o,none⟩)):=Cq Ac M N O
def Pi {i:Operand} {h len cap:Nat} {k:IntKind} (G:Az tab t=some (.slice e,sz):=by exact rfl) (M:Az tab e=some (s,h):=by exact rfl)
 (N:ev l x=some (.slice (some ⟨b,o,none⟩) len cap):=by exact rfl) (O:ev l i=some (.int k j):=by exact rfl) (U:0<=j:=by omega) (V:j<len:=by omega):Bh prog n l S (.indexAddr t x i) ty (.pointer (some ⟨b,o+j.toNat*h,none⟩)):=AC Ac G M N O U V
def Pz {p:oA} {len cap:Nat} (h:Az tab t=some (.slice e,sz):=by exact rfl) (G:ev l x=some (.slice p len cap):=by exact rfl):Bh prog n l S (.call ⟨.builtin .len,#[x],#[t]⟩) ty (.int .i64 len):=DL Ac h G
def Py {a:lB} (h:Az tab t=some (.str,sz):=by exact rfl) (G:ev l x=some (str a):=by exact rfl):Bh prog n l S (.call ⟨.builtin .len,#[x],#[t]⟩) ty (.int .i64 a.length):=TQ Ac h G
def Px (h:ev l x=some (.tuple vs.toArray):=by exact rfl) (G:vs[i]? = some v:=by exact rfl):Bh P n l S (.extract x i) ty v:=O4 h G
def Pt {q:Bool} {t:TypeId} (h:ev l x=some (.bool q):=by exact rfl):Bh P n l S (.unOp .not t x) ty (.bool !q):=Ye h
section
variable {x y:Operand} {k:IntKind} {a b:Int} {t t':TypeId}
def V1 (h:ev l x=some (.int k a):=by exact rfl) (G:ev l y=some (.int k b):=by exact rfl):Bh P n l S (.binOp .eql t x y t') ty (.bool (decide (a=b))):=X6 h G
def V2 (h:ev l x=some (.int k a):=by exact rfl) (G:ev l y=some (.int k b):=by exact rfl):Bh P n l S (.binOp .neq t x y t') ty (.bool (decide (a≠b))):=X8 h G
def V3 (h:ev l x=some (.int k a):=by exact rfl) (G:ev l y=some (.int k b):=by exact rfl):Bh P n l S (.binOp .lss t x y t') ty (.bool (decide (a<b))):=Ya h G
def V4 (h:ev l x=some (.int k a):=by exact rfl) (G:ev l y=some (.int k b):=by exact rfl):Bh P n l S (.binOp .leq t x y t') ty (.bool (decide (a<=b))):=Yb h G
def V5 (h:ev l x=some (.int k a):=by exact rfl) (G:ev l y=some (.int k b):=by exact rfl):Bh P n l S (.binOp .gtr t x y t') ty (.bool (decide (b<a))):=NY h G
def V6 (h:ev l x=some (.int k a):=by exact rfl) (G:ev l y=some (.int k b):=by exact rfl):Bh P n l S (.binOp .geq t x y t') ty (.bool (decide (b<=a))):=Yc h G
def V7 (G:ev l x=some (.int .i64 a):=by exact rfl) (M:ev l y=some (.int .i64 b):=by exact rfl) (h : -9223372036854775808<=a+b/\a+b<=9223372036854775807:=by omega):Bh P n l S (.binOp .add t x y t') ty (.int .i64 (a+b)):=Ia G M (gz _ h)
end
section
variable {x y:Operand} {a b:lB} {t t':TypeId}
def V8 (h:ev l x=some (str a):=by exact rfl) (G:ev l y=some (str b):=by exact rfl):Bh P n l S (.binOp .eql t x y t') ty (.bool (decide (a=b))):=Vz h G
def V9 (h:ev l x=some (str a):=by exact rfl) (G:ev l y=some (str b):=by exact rfl):Bh P n l S (.binOp .neq t x y t') ty (.bool (decide (a≠b))):=VA h G
end
section
variable {c x y:Operand} {p:Prop} [Decidable p] {u:Value}
def Qy (h:p) (G:ev l c=some (.bool (decide p)):=by exact rfl) (M:ev l x=some u:=by exact rfl):Bh P n l S (.pick c x y) ty u:=E4 G M h
def Qn (h:¬p) (G:ev l c=some (.bool (decide p)):=by exact rfl) (M:ev l y=some u:=by exact rfl):Bh P n l S (.pick c x y) ty u:=FH G M h
def Ry (h:ev l c=some (.bool (decide p)):=by exact rfl) (G:ev l x=some u:=by exact rfl) (M:p:=by assumption):Bh P n l S (.pick c x y) ty u:=E4 h G M
def O1 (h:ev l c=some (.bool (decide p)):=by exact rfl) (G:ev l y=some u:=by exact rfl) (M:¬p:=by assumption):Bh P n l S (.pick c x y) ty u:=FH h G M
def Vu (h:ev l c=some (.bool (decide p)):=by exact rfl) (G:ev l x=some u:=by exact rfl) (M:p:=by decide):Bh P n l S (.pick c x y) ty u:=E4 h G M
def XZ (h:ev l c=some (.bool (decide p)):=by exact rfl) (G:ev l y=some u:=by exact rfl) (M:¬p:=by decide):Bh P n l S (.pick c x y) ty u:=FH h G M
def TU (h:ev l c=some (.bool (decide p)):=by exact rfl) (G:ev l x=some u:=by exact rfl) (M:p:=by omega):Bh P n l S (.pick c x y) ty u:=E4 h G M
def K5 (h:ev l c=some (.bool (decide p)):=by exact rfl) (G:ev l y=some u:=by exact rfl) (M:¬p:=by omega):Bh P n l S (.pick c x y) ty u:=FH h G M
end
def Pl (h:Blk w b vs) (G:Az tab t=some (s,sz):=by exact rfl) (M:s.agg=false:=by exact rfl) (N:ev l x=some (.pointer (some ⟨b,o,none⟩)):=by exact rfl)
 (O:vs[o]? = some v:=by exact rfl):Bh prog n l (λx=>x=w) (.load t x) ty v:=Ap Ac G M N (λV U=>by subst U;exact h.cell O)
def Pw (h:Row w ⟨b,o,none⟩ vs) (G:Az tab t=some (s,sz):=by exact rfl) (M:s.agg=false:=by exact rfl) (N:ev l x=some (.pointer (some ⟨b,o+i,none⟩)):=by exact rfl)
 (O:vs[i]? = some v:=by exact rfl):Bh prog n l (λx=>x=w) (.load t x) ty v:=Ap Ac G M N (λV U=>by subst U;exact h.at O)
def SR (h:Row w ⟨b,o,none⟩ vs) (G:Az tab t=some (s,sz):=by exact rfl) (M:s.agg=false:=by exact rfl) (N:ev l x=some (.pointer (some ⟨b,o,none⟩)):=by exact rfl)
 (O:vs[0]? = some v:=by exact rfl):Bh prog n l (λx=>x=w) (.load t x) ty v:=Ap Ac G M N (λV U=>by subst U;exact h.at0 O)
def VF (h:Row w ⟨b,o,none⟩ vs) (G:Az tab t=some (s,sz):=by exact rfl) (M:s.agg=true:=by exact rfl) (N:ev l x=some (.pointer (some ⟨b,o,none⟩)):=by exact rfl)
 (O:vs.length=sz:=by exact rfl):Bh prog n l (λx=>x=w) (.load t x) ty (.agg vs.toArray):=BE Ac G M N (λV U=>by subst U;exact h) O
section
variable {x:Operand} {t sz b o i:Nat} {s:Sk} {vs:lV} {v:Value} {w0:wD}
def Db (G:Blk w0 b vs) (M:Az tab t=some (s,sz):=by exact rfl) (N:s.agg=false:=by exact rfl) (O:ev l x=some (.pointer (some ⟨b,o,none⟩)):=by exact rfl) (U:vs[o]? = some v:=by exact rfl) :
 Bh prog n l (λh=>Ext w0 h) (.load t x) ty v:=Ap Ac M N O (λh V=>Blk.cell (Blk.ext G V) U)
def Dr (G:Row w0 ⟨b,o,none⟩ vs) (M:Az tab t=some (s,sz):=by exact rfl) (N:s.agg=false:=by exact rfl) (O:ev l x=some (.pointer (some ⟨b,o+i,none⟩)):=by exact rfl) (U:vs[i]? = some v:=by exact rfl) :
 Bh prog n l (λh=>Ext w0 h) (.load t x) ty v:=Ap Ac M N O (λh V=>Row.at (Row.ext G V) U)
end
def C1 (h:Bh P n l (λx=>x=w) op ty v) (k:LW P n ops Q rest ((d,v)::l) w) (G:gM d n=true:=by exact rfl):LW P n ops Q (⟨some d,op,ty,pos,after,none⟩::rest) l w:=Cy h G k
def cM (h:ev l x=some v) (k:LW P n ops Q rest ((d,v)::l) w) (G:gM d n=true:=by exact rfl):LW P n ops Q (⟨some d,.move x,ty,pos,after,none⟩::rest) l w:=Cy (Ar h) G k
def cA (h:ev l x=some v) (k:LW P n ops Q rest ((d,v)::l) w) (G:gM d n=true:=by exact rfl):LW P n ops Q (⟨some d,.assign x,ty,pos,after,none⟩::rest) l w:=Cy (Gv h) G k
def Tq {K:Nat} {r:Sc} (h:ops.toList[i]? = some ⟨some d,op,ty,pos,after,none⟩) (G:Bh P n l S op ty v) (k:TW P n ops Q S K r ((d,v)::l) w) (M:gM d n=true:=by exact rfl):TW P n ops Q S K (.pure i r) l w:=Yg h G M k
section
variable {c:Operand} {x y:Code} {p:Prop} [Decidable p]
def VG (h:CW P n y Q l w) (G:ev l c=some (.bool (decide p)):=by exact rfl) (M:¬p:=by assumption):CW P n (.cond c x y) Q l w:=M6 G M h
def VH (h:CW P n x Q l w) (G:ev l c=some (.bool (decide p)):=by exact rfl) (M:p:=by assumption):CW P n (.cond c x y) Q l w:=Ru G M h
def Lb (h:CW P n y Q l w) (G:ev l c=some (.bool (decide p)):=by exact rfl) (M:¬p:=by decide):CW P n (.cond c x y) Q l w:=M6 G M h
def Vv (h:CW P n x Q l w) (G:ev l c=some (.bool (decide p)):=by exact rfl) (M:p:=by decide):CW P n (.cond c x y) Q l w:=Ru G M h
def C6 (h:CW P n y Q l w) (G:ev l c=some (.bool (decide p)):=by exact rfl) (M:¬p:=by omega):CW P n (.cond c x y) Q l w:=M6 G M h
def O8 (h:CW P n x Q l w) (G:ev l c=some (.bool (decide p)):=by exact rfl) (M:p:=by omega):CW P n (.cond c x y) Q l w:=Ru G M h
end
section
variable {op:Op} {j dj:Nat} {p:Prop} [Decidable p]
def cK (k:LW P n ops Q (⟨some d,op,ty,pos,after,none⟩::rest) l w) (h:BC ops j=some dj:=by exact rfl) (G:gM dj n=true:=by exact rfl) (M:look l dj=some (.bool (decide p)):=by exact rfl) (N:p:=by assumption):LW P n ops Q (⟨some d,op,ty,pos,after,some (j,true)⟩::rest) l w:=A1 h G M (Gc N) k
def G2 (k:LW P n ops Q (⟨some d,op,ty,pos,after,none⟩::rest) l w) (h:BC ops j=some dj:=by exact rfl) (G:gM dj n=true:=by exact rfl) (M:look l dj=some (.bool (decide p)):=by exact rfl) (N:p:=by decide):LW P n ops Q (⟨some d,op,ty,pos,after,some (j,true)⟩::rest) l w:=A1 h G M (Gc N) k
def TV (k:LW P n ops Q (⟨some d,op,ty,pos,after,none⟩::rest) l w) (h:BC ops j=some dj:=by exact rfl) (G:gM dj n=true:=by exact rfl) (M:look l dj=some (.bool (decide p)):=by exact rfl) (N:p:=by omega):LW P n ops Q (⟨some d,op,ty,pos,after,some (j,true)⟩::rest) l w:=A1 h G M (Gc N) k
def FA (k:LW P n ops Q (⟨some d,op,ty,pos,after,none⟩::rest) l w) (h:BC ops j=some dj:=by exact rfl) (G:gM dj n=true:=by exact rfl) (M:look l dj=some (.bool (decide p)):=by exact rfl) (N:¬p:=by assumption):LW P n ops Q (⟨some d,op,ty,pos,after,some (j,false)⟩::rest) l w:=A1 h G M (Gd N) k
def Z7 (k:LW P n ops Q (⟨some d,op,ty,pos,after,none⟩::rest) l w) (h:BC ops j=some dj:=by exact rfl) (G:gM dj n=true:=by exact rfl) (M:look l dj=some (.bool (decide p)):=by exact rfl) (N:¬p:=by decide):LW P n ops Q (⟨some d,op,ty,pos,after,some (j,false)⟩::rest) l w:=A1 h G M (Gd N) k
def DK (k:LW P n ops Q (⟨some d,op,ty,pos,after,none⟩::rest) l w) (h:BC ops j=some dj:=by exact rfl) (G:gM dj n=true:=by exact rfl) (M:look l dj=some (.bool (decide p)):=by exact rfl) (N:¬p:=by omega):LW P n ops Q (⟨some d,op,ty,pos,after,some (j,false)⟩::rest) l w:=A1 h G M (Gd N) k
def FB (k:LW P n ops Q rest ((d,undef)::l) w) (h:BC ops j=some dj:=by exact rfl) (G:gM dj n=true:=by exact rfl) (M:look l dj=some (.bool (decide p)):=by exact rfl) (N:p:=by assumption) (O:gM d n=true:=by exact rfl):LW P n ops Q (⟨some d,op,ty,pos,after,some (j,false)⟩::rest) l w:=Be h G M (Nb N) O k
def VI (k:LW P n ops Q rest ((d,undef)::l) w) (h:BC ops j=some dj:=by exact rfl) (G:gM dj n=true:=by exact rfl) (M:look l dj=some (.bool (decide p)):=by exact rfl) (N:p:=by decide) (O:gM d n=true:=by exact rfl):LW P n ops Q (⟨some d,op,ty,pos,after,some (j,false)⟩::rest) l w:=Be h G M (Nb N) O k
def ZQ (k:LW P n ops Q rest ((d,undef)::l) w) (h:BC ops j=some dj:=by exact rfl) (G:gM dj n=true:=by exact rfl) (M:look l dj=some (.bool (decide p)):=by exact rfl) (N:p:=by omega) (O:gM d n=true:=by exact rfl):LW P n ops Q (⟨some d,op,ty,pos,after,some (j,false)⟩::rest) l w:=Be h G M (Nb N) O k
def O2 (k:LW P n ops Q rest ((d,undef)::l) w) (h:BC ops j=some dj:=by exact rfl) (G:gM dj n=true:=by exact rfl) (M:look l dj=some (.bool (decide p)):=by exact rfl) (N:¬p:=by assumption) (O:gM d n=true:=by exact rfl):LW P n ops Q (⟨some d,op,ty,pos,after,some (j,true)⟩::rest) l w:=Be h G M (DN N) O k
def X0 (k:LW P n ops Q rest ((d,undef)::l) w) (h:BC ops j=some dj:=by exact rfl) (G:gM dj n=true:=by exact rfl) (M:look l dj=some (.bool (decide p)):=by exact rfl) (N:¬p:=by decide) (O:gM d n=true:=by exact rfl):LW P n ops Q (⟨some d,op,ty,pos,after,some (j,true)⟩::rest) l w:=Be h G M (DN N) O k
def cW (k:LW P n ops Q rest ((d,undef)::l) w) (h:BC ops j=some dj:=by exact rfl) (G:gM dj n=true:=by exact rfl) (M:look l dj=some (.bool (decide p)):=by exact rfl) (N:¬p:=by omega) (O:gM d n=true:=by exact rfl):LW P n ops Q (⟨some d,op,ty,pos,after,some (j,true)⟩::rest) l w:=Be h G M (DN N) O k
end
end
 class LfE (w w':wD) (p:Prop) (q:outParam Prop):Prop where
 up:Ext w w'->p->q
 class LfF (S:nP) (w w':wD) (p:Prop) (s q:outParam Prop):Prop where
 up:Fr S w w'->s->p->q
 class ChE (w w':wD) (g:Prop) (g':outParam Prop):Prop where
 up:Ext w w'->g'->g
 class ChF (S:nP) (w w':wD) (g:Prop) (s g':outParam Prop):Prop where
 up:Fr S w w'->s->g'->g
instance (priority:=low) chE0:ChE w w' g g:=⟨λ_ h=>h⟩
instance (priority:=low) chF0 {S:nP}:ChF S w w' g True g:=⟨λ_ _ h=>h⟩
instance chE1 {q g':Prop} [LfE w w' p q] [ChE w w' g g']:ChE w w' (p->g) (q->g'):=⟨λx h a=>ChE.up x (h (LfE.up x a))⟩
instance chF1 {S:nP} {s q r g':Prop} [LfF S w w' p s q] [ChF S w w' g r g']:ChF S w w' (p->g) (s/\r) (q->g'):=⟨λx s h a=>ChF.up x s.2 (h (LfF.up x s.1 a))⟩
def eE {h:Prop} (x:Ext w w') (k:h) [ChE w w' g h]:g:=ChE.up x k
def eF {S:nP} {s:Prop} (x:Fr S w w') (k:p) [ChF S w w' g s p] (h:s:=by (repeat' apply And.intro)<;>first|exact trivial|omega|(simp only;omega)|exact λk G=>gq G|exact λb N h=>h (gq N)|exact λk G=>gq (λh=>G (gq h))|exact λh=>h (gt ⟨by omega,by omega⟩)|exact λh=>h (gq (gt ⟨by omega,by omega⟩))):g:=ChF.up x h k
section
variable {P:Program} {n d:Nat} {ops:Array Oper} {Q:Exit->Act->wD->Prop} {rest:List Oper} {l:Sl} {w:wD} {ty:TypeId} {pos:String} {after:Array Edge}
def eB (vs:lV) (k:∀b w1,Blk w1 b vs->Ext w w1->b=w.heap.size->w1.heap.size=b+1->LW P n ops Q rest ((d,.pointer (some ⟨b,0,none⟩))::l) w1) (G:ev l x=some v:=by exact rfl) (M:v.cells=vs.toArray:=by exact rfl) (N:gM d n=true:=by exact rfl) :
 LW P n ops Q (⟨some d,.box t x,ty,pos,after,none⟩::rest) l w:=Dl vs G M N λb w1 h=>k b w1 h.blk h.ext h.pos h.size
def eA (vs:lV) (k:∀b w1,Blk w1 b vs->Ext w w1->b=w.heap.size->w1.heap.size=b+1->LW prog n ops Q rest ((d,.pointer (some ⟨b,0,none⟩))::l) w1) (G:Cz zt t=some vs:=by exact rfl) (M:gM d n=true:=by exact rfl) :
 LW prog n ops Q (⟨some d,.alloc t,ty,pos,after,none⟩::rest) l w:=En vs Cs G M λb w1 h=>k b w1 h.blk h.ext h.pos h.size
def eI {y:Operand} (us:lV) (G:New w0 w b vs) (k:∀w1,Blk w1 b us->Ext w0 w1->b=w0.heap.size->w1.heap.size=b+1->LW prog n ops Q rest l w1) (M:Az tab t=some (s,sz):=by exact rfl)
 (N:ev l x=some (.pointer (some ⟨b,0,none⟩)):=by exact rfl) (O:ev l y=some v:=by exact rfl) (U:v.cells=us.toArray:=by exact rfl) (V:us.length=sz:=by exact rfl) (X:us.all Value.one=true:=by exact rfl) (Y:us.length=vs.length:=by exact rfl) :
 LW prog n ops Q (⟨none,.store t x y,ty,pos,after,none⟩::rest) l w:=Dq us Ac M N O U V X G Y λw1 h=>k w1 h.blk h.ext h.pos h.size
def eV {y:Operand} (us G:lV) (M:Blk w b vs) (k:∀w1,Blk w1 b G->Fr (· = b) w w1->w1.heap.size=w.heap.size->LW prog n ops Q rest l w1) (N:Az tab t=some (s,sz):=by exact rfl)
 (O:ev l x=some (.pointer (some ⟨b,o,none⟩)):=by exact rfl) (U:ev l y=some v:=by exact rfl) (V:v.cells=us.toArray:=by exact rfl) (X:us.length=sz:=by exact rfl) (Y:us.all Value.one=true:=by exact rfl) (Z:iy (o+us.length) vs.length=true:=by exact rfl) (he:A8 vs o us=G:=by exact rfl) :
 LW prog n ops Q (⟨none,.store t x y,ty,pos,after,none⟩::rest) l w:=JS us G Ac N O U V X Y M Z he λw1 h=>k w1 h.blk h.fr h.size
def eS {y:Operand} (us:lV) (G:Blk w b vs) (k:∀w1,Blk w1 b us->Fr (· = b) w w1->w1.heap.size=w.heap.size->LW prog n ops Q rest l w1) (M:Az tab t=some (s,sz):=by exact rfl)
 (N:ev l x=some (.pointer (some ⟨b,o,none⟩)):=by exact rfl) (O:ev l y=some v:=by exact rfl) (U:v.cells=us.toArray:=by exact rfl) (V:us.length=sz:=by exact rfl) (X:us.all Value.one=true:=by exact rfl) (Y:iy (o+us.length) vs.length=true:=by exact rfl) (Z:A8 vs o us=us:=by exact rfl) :
 LW prog n ops Q (⟨none,.store t x y,ty,pos,after,none⟩::rest) l w:=JS us us Ac M N O U V X G Y Z λw1 h=>k w1 h.blk h.fr h.size
def eQ {tys:Array TypeId} (G:evs l xs=some vs) (C:Calls P f vs.toArray w R) (k:∀v w1,ZO R (some v) w1->LW P n ops Q rest ((d,v)::l) w1) (M:BT P f=true:=by kernel_rfl) (N:∀e w1,R e w1 -> ∃v,e = .returned v:=by exact λ_ _ h=>h.ret) (O:gM d n=true:=by exact rfl) :
 LW P n ops Q (⟨some d,.call ⟨.value (.func f),xs.toArray,tys⟩,ty,pos,after,none⟩::rest) l w:=cR M G C N O k
def MS (h:Az tab t=some (s,sz):=by exact rfl) (G:s.agg=false:=by exact rfl) (M:ev l x=some (.pointer (some ⟨b,o,none⟩)):=by exact rfl) (N:Blk w b vs:=by assumption)
 (O:vs[o]? = some v:=by exact rfl):Bh prog n l (λx=>x=w) (.load t x) ty v:=Pl N h G M O
def fT (h:Az tab t=some (s,sz):=by exact rfl) (G:s.agg=false:=by exact rfl) (M:ev l x=some (.pointer (some ⟨b,o,none⟩)):=by exact rfl) (N:Row w ⟨b,o,none⟩ vs:=by assumption)
 (O:vs[0]? = some v:=by exact rfl):Bh prog n l (λx=>x=w) (.load t x) ty v:=SR N h G M O
def fU (h:Az tab t=some (s,sz):=by exact rfl) (G:s.agg=true:=by exact rfl) (M:ev l x=some (.pointer (some ⟨b,o,none⟩)):=by exact rfl) (N:Row w ⟨b,o,none⟩ vs:=by assumption)
 (O:vs.length=sz:=by exact rfl):Bh prog n l (λx=>x=w) (.load t x) ty (.agg vs.toArray):=VF N h G M O
def fV {M N:Value} (O:Az tab t=some (s,sz):=by exact rfl) (hz:iA sz 3=true:=by exact rfl) (U:s.agg=true:=by exact rfl) (V:ev l x=some (.pointer (some ⟨b,o,none⟩)):=by exact rfl) (X:Blk w b vs:=by assumption)
 (Y:iy (o+sz) vs.length=true:=by exact rfl) (Z:(vs.drop o).take sz=[v,M,N]:=by exact rfl):Bh prog n l (λx=>x=w) (.load t x) ty (.agg ([v,M,N]:lV).toArray):=BP [v,M,N] Ac O U V (λwz h=>by subst h;exact X) Y Z
def fW {M N O:Value} (U:Az tab t=some (s,sz):=by exact rfl) (hz:iA sz 4=true:=by exact rfl) (V:s.agg=true:=by exact rfl) (X:ev l x=some (.pointer (some ⟨b,o,none⟩)):=by exact rfl) (Y:Blk w b vs:=by assumption)
 (Z:iy (o+sz) vs.length=true:=by exact rfl) (he:(vs.drop o).take sz=[v,M,N,O]:=by exact rfl):Bh prog n l (λx=>x=w) (.load t x) ty (.agg ([v,M,N,O]:lV).toArray):=BP [v,M,N,O] Ac U V X (λwz h=>by subst h;exact Y) Z he
def fX {M N O U:Value} (V:Az tab t=some (s,sz):=by exact rfl) (hz:iA sz 5=true:=by exact rfl) (X:s.agg=true:=by exact rfl) (Y:ev l x=some (.pointer (some ⟨b,o,none⟩)):=by exact rfl) (Z:Blk w b vs:=by assumption)
 (hl:iy (o+sz) vs.length=true:=by exact rfl) (he:(vs.drop o).take sz=[v,M,N,O,U]:=by exact rfl):Bh prog n l (λx=>x=w) (.load t x) ty (.agg ([v,M,N,O,U]:lV).toArray):=BP [v,M,N,O,U] Ac V X Y (λwz h=>by subst h;exact Z) hl he
def fY {M N O U V:Value} (X:Az tab t=some (s,sz):=by exact rfl) (hz:iA sz 6=true:=by exact rfl) (Y:s.agg=true:=by exact rfl) (Z:ev l x=some (.pointer (some ⟨b,o,none⟩)):=by exact rfl) (hb:Blk w b vs:=by assumption)
 (hl:iy (o+sz) vs.length=true:=by exact rfl) (he:(vs.drop o).take sz=[v,M,N,O,U,V]:=by exact rfl):Bh prog n l (λx=>x=w) (.load t x) ty (.agg ([v,M,N,O,U,V]:lV).toArray):=BP [v,M,N,O,U,V] Ac X Y Z (λwz h=>by subst h;exact hb) hl he
end
def eY {h:Prop} (x:Ext w w') (k:w.heap.size<=w'.heap.size->h) [ChE w w' g h]:g:=ChE.up x (k x.size)
def eZ {S:nP} {s:Prop} (x:Fr S w w') (k:w.heap.size<=w'.heap.size->p) [ChF S w w' g s p] (h:s:=by (repeat' apply And.intro)<;>first|exact trivial|omega|(simp only;omega)|exact λk G=>gq G|exact λb N h=>h (gq N)|exact λk G=>gq (λh=>G (gq h))|exact λh=>h (gt ⟨by omega,by omega⟩)|exact λh=>h (gq (gt ⟨by omega,by omega⟩))):g:=ChF.up x h (k x.size)
def sB {m:Sl} (h:SN m l:=by repeat (first|exact BB|refine Am rfl ?_)):SN m l:=h
def sC {m:Sl} (h:SN m l:=by repeat (first|exact BB|refine Am rfl ?_|refine BL rfl (by go_num) ?_)):SN m l:=h
structure Hd (p:Prop):Prop where
 out:p
instance {S:nP} {l:List Nd} {a:oA}:LfE w w' (rowSits S w l a) (rowSits S w' l a):=⟨λx h=>Bk.rowSits.ext h x⟩
instance {S:nP} {t:Nd} {a:oA}:LfE w w' (t.sits S w a) (t.sits S w' a):=⟨λx h=>Bk.Nd.sits.ext h x⟩
instance {S:nP} {l:List Nd} {a:oA}:LfF T w w' (rowSits S w l a) (∀b,S b -> ¬T b) (rowSits S w' l a):=⟨λx s h=>Bk.rowSits.fr h x s⟩
instance {S:nP} {t:Nd} {a:oA}:LfF T w w' (t.sits S w a) (∀b,S b -> ¬T b) (t.sits S w' a):=⟨λx s h=>Bk.Nd.sits.fr h x s⟩
instance:LfE w w' (Blk w b vs) (Blk w' b vs):=⟨λx h=>Bk.Blk.ext h x⟩
instance {S:nP}:LfF S w w' (Blk w b vs) (¬S b) (Blk w' b vs):=⟨λx s h=>Bk.Blk.fr h x s⟩
instance {p:Addr}:LfE w w' (Row w p vs) (Row w' p vs):=⟨λx h=>Bk.Row.ext h x⟩
instance {S:nP} {p:Addr}:LfF S w w' (Row w p vs) (¬S p.block) (Row w' p vs):=⟨λx s h=>Bk.Row.fr h x s⟩
instance {T:TypeId}:LfE w w' (TB w b vs T) (TB w' b vs T):=⟨λx h=>Bk.TB.ext h x⟩
instance {cs:lV}:LfE w w' (Own w b e sz v n cs) (Own w' b e sz v n cs):=⟨λx h=>Bk.Own.ext h x⟩
instance {S:nP} {cs:lV}:LfF S w w' (Own w b e sz v n cs) (∀k,v.ownBlock=some k -> ¬S k) (Own w' b e sz v n cs):=⟨λx s h=>Bk.Own.fr h x s⟩
instance {r:Nat} {kvs:List (lB×Value)}:LfE w w' (MapIs w r kvs) (MapIs w' r kvs):=⟨λx h=>Bk.MapIs.ext h x⟩
instance {S:nP} {r:Nat} {kvs:List (lB×Value)}:LfF S w w' (MapIs w r kvs) (¬S r) (MapIs w' r kvs):=⟨λx s h=>Bk.MapIs.fr h x s⟩
instance {a b c:wD}:LfE b c (Ext a b) (Ext a c):=⟨λx h=>Bk.Ext.ext h x⟩
instance {S:nP} {a b c:wD}:LfE b c (Fr S a b) (Fr S a c):=⟨λx h=>Bk.Fr.ext h x⟩
instance {S:nP} {a b c:wD}:LfF S b c (Ext a b) (∀k,S k->a.heap.size<=k) (Ext a c):=⟨λx s h=>Bk.Ext.fr h x s⟩
instance {S:nP} {a b c:wD}:LfF S b c (Fr T a b) (∀k,S k->T k\/a.heap.size<=k) (Fr T a c):=⟨λx s h=>Bk.Fr.fr h x s⟩
instance {S:nP} {T:TypeId}:LfF S w w' (TB w b vs T) (¬S b) (TB w' b vs T):=⟨λx s h=>Bk.TB.fr h x s⟩
def eK {B:Prop} (a:p) (h:Hd p->B:=by
 intro a
 repeat (first
  | refine cS ?_|refine cN ?_|refine cT ?_|refine C1 Mv ?_|refine C1 Pa ?_|refine C1 MS ?_|refine C1 fW ?_|refine C1 fY ?_|refine C1 fV ?_|refine C1 fX ?_|refine C1 fT ?_|refine C1 fU ?_|refine C1 Pg ?_|refine C1 Pf ?_|refine C1 V1 ?_|refine C1 V8 ?_|refine C1 V2 ?_|refine C1 V3 ?_|refine C1 Pz ?_|refine C1 Py ?_|refine C1 Pn ?_|refine C1 Px ?_|refine C1 Pt ?_|refine C1 Pi ?_|refine C1 V7 ?_|refine C1 V4 ?_|refine C1 V5 ?_|refine C1 V6 ?_|refine C1 V9 ?_
  | refine Aj ?_|refine As ?_|refine Ao ?_|refine Ai ?_|refine Au ?_|refine AJ ?_|refine Av ?_|refine AO ?_|refine BF ?_|refine AM ?_|refine Ah ?_|refine Al ?_|refine Ak ?_
  | refine VG ?_|refine VH ?_|refine BJ rfl ?_|refine AY rfl ?_|refine Lb ?_|refine Vv ?_|refine C6 ?_|refine O8 ?_
  | refine cK ?_|refine FA ?_|refine FB ?_|refine O2 ?_|refine A1 rfl rfl rfl (rfl) ?_|refine Be rfl rfl rfl (rfl) rfl ?_|refine G2 ?_|refine Z7 ?_|refine VI ?_|refine X0 ?_|refine TV ?_|refine DK ?_|refine ZQ ?_|refine cW ?_
  | refine C1 (Bm rfl rfl rfl) ?_|refine C1 (BM rfl rfl rfl) ?_|refine C1 Ry ?_|refine C1 O1 ?_|refine C1 Vu ?_|refine C1 XZ ?_|refine C1 TU ?_|refine C1 K5 ?_)
 exact a.out):B:=h ⟨a⟩
section
variable {P:Program} {n d i K:Nat} {ops:Array Oper} {Q:Exit->Act->wD->Prop} {r:Sc} {l:Sl} {w:wD} {ty:TypeId} {pos:String} {after:Array Edge} {S:wD->Prop}
def eD (h:Az tab t=some (s,sz):=by exact rfl) (G:s.agg=false:=by exact rfl) (M:ev l x=some (.pointer (some ⟨b,o,none⟩)):=by exact rfl) (N:Blk w0 b vs:=by assumption) (O:vs[o]? = some v:=by exact rfl) :
 Bh prog n l (λU=>Ext w0 U) (.load t x) ty v:=Db N h G M O
def eN {j:Nat} {b:Bool} (G:ops.toList[i]? = some ⟨some d,op,ty,pos,after,some (j,h)⟩) (M:Bh P n l S op ty v) (k:TW P n ops Q S K r ((d,v)::l) w) (N:BC ops j=some sz:=by exact rfl) (O:gM sz n=true:=by exact rfl) (U:look l sz=some (.bool b):=by exact rfl) (V:(b==h)=true:=by first|exact Gc ‹_› | exact Gd ‹_› | rfl|exact Gc (by decide)|exact Gd (by decide)|exact Gc (by omega)|exact Gd (by omega)) (X:gM d n=true:=by exact rfl) :
 TW P n ops Q S K (.pure i r) l w:=Kw G N O U V M X k
def eM {j:Nat} {b:Bool} (G:ops.toList[i]? = some ⟨some d,op,ty,pos,after,some (j,h)⟩) (k:TW P n ops Q S K r ((d,undef)::l) w) (M:BC ops j=some sz:=by exact rfl) (N:gM sz n=true:=by exact rfl) (O:look l sz=some (.bool b):=by exact rfl) (U:(b==h)=false:=by first|exact Nb ‹_› | exact DN ‹_› | rfl|exact Nb (by decide)|exact DN (by decide)|exact Nb (by omega)|exact DN (by omega)) (V:gM d n=true:=by exact rfl) :
 TW P n ops Q S K (.pure i r) l w:=DH G M N O U V k
end
def eT {B:Prop} (a:p) (h:Hd p->B:=by
 intro a
 repeat (first
  | refine Tq rfl Mv ?_|refine Tq rfl eD ?_|refine Tq rfl Pg ?_|refine Tq rfl Pf ?_|refine Tq rfl Pn ?_|refine Tq rfl V1 ?_|refine Tq rfl V8 ?_|refine Tq rfl V2 ?_|refine Tq rfl V3 ?_|refine Tq rfl Pz ?_|refine Tq rfl Py ?_|refine Tq rfl Px ?_|refine Tq rfl Pt ?_|refine Tq rfl Pa ?_|refine Tq rfl Pi ?_|refine Tq rfl V7 ?_|refine Tq rfl V4 ?_|refine Tq rfl V5 ?_|refine Tq rfl V6 ?_|refine Tq rfl V9 ?_|refine Tq rfl (Bm rfl rfl rfl) ?_|refine Tq rfl (BM rfl rfl rfl) ?_|refine Tq rfl Ry ?_|refine Tq rfl O1 ?_|refine Tq rfl Vu ?_|refine Tq rfl XZ ?_|refine Tq rfl TU ?_|refine Tq rfl K5 ?_
  | refine eN rfl Mv ?_|refine eN rfl eD ?_|refine eN rfl Pg ?_|refine eN rfl Pf ?_|refine eN rfl Pn ?_|refine eN rfl V1 ?_|refine eN rfl V8 ?_|refine eN rfl V2 ?_|refine eN rfl V3 ?_|refine eN rfl Pz ?_|refine eN rfl Py ?_|refine eN rfl Px ?_|refine eN rfl Pt ?_|refine eN rfl Pa ?_|refine eN rfl Pi ?_|refine eN rfl V7 ?_|refine eN rfl V4 ?_|refine eN rfl V5 ?_|refine eN rfl V6 ?_|refine eN rfl V9 ?_|refine eN rfl (Bm rfl rfl rfl) ?_|refine eN rfl (BM rfl rfl rfl) ?_|refine eN rfl Ry ?_|refine eN rfl O1 ?_|refine eN rfl Vu ?_|refine eN rfl XZ ?_|refine eN rfl TU ?_|refine eN rfl K5 ?_
  | refine eM rfl ?_)
 exact a.out):B:=h ⟨a⟩
section
variable {P:Program} {n d:Nat} {ops:Array Oper} {Q:Exit->Act->wD->Prop} {rest:List Oper} {l:Sl} {w:wD} {ty:TypeId} {pos:String} {after:Array Edge} {S:wD->Prop} {x:Operand} {t sz b:Nat} {s:Sk} {vs:lV}
def xS {h len:Nat} {sE:Sk} (cs:lV) (M:Az tab t=some (.slice e,sz):=by exact rfl) (N:Az tab e=some (sE,h):=by exact rfl) (O:Cz zt e=some zs:=by exact rfl) (U:Gw l 0 ps=some vs:=by exact rfl) (V:vs.length=len:=by exact rfl)
 (X:vs.all (λv=>iA v.cells.size h)=true:=by exact rfl) (Y:iy (len*h) 10000=true:=by exact rfl) (G:gM 0 (len*h)=true:=by exact rfl) (Z:(vs.map (·.cells.toList)).flatten=cs:=by exact rfl):BD prog n l (.buildSlice t len ps.toArray) ty w (N1 w len cs e):=C2 cs Ac Cs M N O U V X Y G Z
def xB {h:List (Nat×Nat)} {xs:List (Nat×Operand)} {ps:List (Nat×Value)} {G:List (Nat×Nat×lV)} (out:lV) (M:Az tab t=some (.struct h,sz):=by exact rfl) (N:Cz zt t=some zs:=by exact rfl) (O:IF tab h l xs=some (ps,G):=by exact rfl) (U:Iu G zs=some out:=by exact rfl) :
 Bh prog n l S (.build t xs.toArray) ty (.agg out.toArray):=DR out Ac Cs M N O U
def xR (G:R (.returned v) w) (h:fn.results = #[.tmp t]:=by exact rfl) (M:look l t=some v:=by exact rfl):QW n (bodyPost P fn R) .ret l w:=AP h M G
def xT {u:Nat} {x:Value} (G:R (.returned (.tuple #[v,x])) w) (h:fn.results = #[.tmp t,.tmp u]:=by exact rfl) (M:look l t=some v:=by exact rfl) (N:look l u=some x:=by exact rfl):QW n (bodyPost P fn R) .ret l w:=Ba h M N G
def xC {ty:Nat} (G:Blk w b vs) (M:R (.returned (.agg vs.toArray)) w) (h:fn.results = #[.cell t ty]:=by exact rfl) (N:Az tab ty=some (s,sz):=by exact rfl) (O:s.agg=true:=by exact rfl) (U:look l t=some (.pointer (some ⟨b,0,none⟩)):=by exact rfl) (V:vs.length=sz:=by exact rfl):QW n (bodyPost prog fn R) .ret l w:=SP h Ac N O U G V M
def xA (vs:lV) (k:∀b w1,New w w1 b vs->LW prog n ops Q rest ((d,.pointer (some ⟨b,0,none⟩))::l) w1) (h:Cz zt t=some vs:=by exact rfl) (G:gM d n=true:=by exact rfl):LW prog n ops Q (⟨some d,.alloc t,ty,pos,after,none⟩::rest) l w:=En vs Cs h G k
def xL (us:lV) (h:∀w,S w->Blk w b vs) (G:Az tab t=some (s,sz):=by exact rfl) (M:s.agg=true:=by exact rfl) (N:ev l x=some (.pointer (some ⟨b,o,none⟩)):=by exact rfl) (O:iy (o+sz) vs.length=true:=by exact rfl) (U:(vs.drop o).take sz=us:=by exact rfl) :
 Bh prog n l S (.load t x) ty (.agg us.toArray):=BP us Ac G M N h O U
def xD {p:Addr} (h:∀w,S w->w.cell? p=some v) (G:Az tab t=some (s,sz):=by exact rfl) (M:s.agg=false:=by exact rfl) (N:ev l x=some (.pointer (some p)):=by exact rfl):Bh prog n l S (.load t x) ty v:=Ap Ac G M N h
end
section
variable {P:Program} {n d i K:Nat} {ops:Array Oper} {Q:Exit->Act->wD->Prop} {x:Sc} {l:Sl} {w:wD} {ty:TypeId} {pos:String} {after:Array Edge} {S:wD->Prop}
def tC {tys:Array TypeId} (M:ops.toList[i]? = some ⟨some d,.call ⟨.value (.func f),xs.toArray,tys⟩,ty,pos,after,none⟩) (G:evs l xs=some vs) (C:Calls P f vs.toArray w R)
 (k:∀v w1,ZO R (some v) w1->S w1/\TW P n ops Q S K x ((d,v)::l) w1) (N:BT P f=true:=by kernel_rfl) (O:∀e w1,R e w1 -> ∃v,e = .returned v:=by first|exact λ_ _ h=>h.ret|exact λ_ _ h=>⟨_,h.1⟩) (U:gM d n=true:=by exact rfl):TW P n ops Q S K (.fork i x .none) l w:=
 AE M (AR N G C O) U k (λ_ h=>h) AD
end
section
variable {P:Program} {n d t:Nat} {Q:Exit->Act->wD->Prop} {ops:Array Oper} {rest:List Oper} {l:Sl} {w:wD} {ty:TypeId} {pos:String} {after:Array Edge} {B:Prop} {fn:Func} {R:Ending->wD->Prop}
def kR (G:R (.returned v) w) (a:Hd (QW n (bodyPost P fn R) .ret l w)->B:=by exact λa=>eK a.out) (h:fn.results = #[.tmp t]:=by exact rfl) (M:look l t=some v:=by exact rfl):B:=a ⟨AP h M G⟩
def kT {u:Nat} {x:Value} (G:R (.returned (.tuple #[v,x])) w) (a:Hd (QW n (bodyPost P fn R) .ret l w)->B:=by exact λa=>eK a.out) (h:fn.results = #[.tmp t,.tmp u]:=by exact rfl) (M:look l t=some v:=by exact rfl) (N:look l u=some x:=by exact rfl):B:=a ⟨Ba h M N G⟩
def kX {ty:Nat} (G:Blk w b vs) (M:R (.returned (.agg vs.toArray)) w) (a:Hd (QW n (bodyPost prog fn R) .ret l w)->B:=by exact λa=>eK a.out) (h:fn.results = #[.cell t ty]:=by exact rfl) (N:Az tab ty=some (s,sz):=by exact rfl) (O:s.agg=true:=by exact rfl) (U:look l t=some (.pointer (some ⟨b,0,none⟩)):=by exact rfl) (V:vs.length=sz:=by exact rfl):B:=a ⟨SP h Ac N O U G V M⟩
def kC {tys:Array TypeId} {v0:Value} {R:wD->Prop} (C:Calls P f vs.toArray w (λe w'=>e = .returned v0/\R w')) (k:∀v w1,ZO (λe w'=>e = .returned v0/\R w') (some v) w1->LW P n ops Q rest ((d,v)::l) w1)
 (a:Hd (LW P n ops Q (⟨some d,.call ⟨.value (.func f),xs.toArray,tys⟩,ty,pos,after,none⟩::rest) l w)->B:=by exact λa=>eK a.out) (h:evs l xs=some vs:=by exact rfl) (G:BT P f=true:=by kernel_rfl) (M:gM d n=true:=by exact rfl):B:=a ⟨cC h C k G M⟩
def kQ {tys:Array TypeId} (C:Calls P f vs.toArray w R) (k:∀v w1,ZO R (some v) w1->LW P n ops Q rest ((d,v)::l) w1)
 (a:Hd (LW P n ops Q (⟨some d,.call ⟨.value (.func f),xs.toArray,tys⟩,ty,pos,after,none⟩::rest) l w)->B:=by exact λa=>eK a.out) (G:evs l xs=some vs:=by exact rfl) (M:BT P f=true:=by kernel_rfl) (N:∀e w1,R e w1 -> ∃v,e = .returned v:=by exact λ_ _ h=>h.ret) (O:gM d n=true:=by exact rfl):B:=a ⟨cR M G C N O k⟩
end
def Af (h:p:=by assumption):p:=h
def Ab (h:p:=by omega):p:=h
def CH (h:p:=by decide):p:=h
def AN (h:p:=by simp):p:=h
def aFh.{u} {α:Sort u} {p:α->Prop}:∀a,p a->p a:=λ_ h=>h
def gh (h:Ext w w':=by repeat (first|exact Ext.refl _|assumption|refine Ext.alloc ?_ _|refine Ext.drew ?_|refine Ext.trans ?_ ‹_›)):Ext w w':=h
def AT (h:p:=by kernel_rfl):p:=h
def TX (A:Ending->wD->Prop) (B:List PanicEntry->wD->Prop):Ending->wD->Prop:=λe w=>A e w \/ ∃c,e = .panicked c/\B c w
section
variable {P:Program} {n:Nat} {l:Sl} {w:wD} {ty:TypeId} {Q:Exit->Act->wD->Prop} {ops:Array Oper} {rest:List Oper} {pos:String} {after:Array Edge} {A:Ending->wD->Prop} {B:List PanicEntry->wD->Prop}
def AH {K:Act->wD->Prop} {c:List PanicEntry} (h:QW n Q (.panic c) l w):QW n (Exit.then K Q) (.panic c) l w:=by unfold QW at h ⊢;exact h
def AS {c:List PanicEntry} (h:QW n Q (.panic c) l w):QW n (Exit.inBlock i Q) (.panic c) l w:=by unfold QW at h ⊢;exact h
def AF {c:List PanicEntry} (h:R (.panicked c) w):QW n (bodyPost P fn R) (.panic c) l w:=by unfold QW;exact λ_ G=>⟨G.defers,h⟩
def VJ {t:TypeId} {d:Option Nat} (M:ev l x=some (.iface t v)) (h:QW n Q (.panic [{ v:=.iface t v,recovered:=false }]) l w):LW P n ops Q (⟨d,.panic x,ty,pos,after,none⟩::rest) l w:=by
 unfold LW;unfold QW at h;intro a G;unfold wpList;rw [AQ (Bc rfl)];left;have e:(execOp a.eval ⟨d,.panic x,ty,pos,after,none⟩).run P w = .halt (.panic (.iface t v)) w:=by
  simp [execOp,G.ev M,Instr.panic,goPanic,gE,Sem.run,gw]
 unfold iB;rw [e];exact h a G
def Ng (P:Program) (n:Nat) (l:Sl) (op:Op) (ty:TypeId) (w:wD) (A:Ending->wD->Prop) (B:List PanicEntry->wD->Prop):Prop:=
 ∀a dst pos after g (next:Act->wD->Prop) (Q:Exit->Act->wD->Prop),Env n l a->(∀v w',A (.returned v) w'->next (a.put dst v) w')->(∀c w',B c w'->Q (.panic c) a w')->(⟨dst,op,ty,pos,after,g⟩:Oper).wp P a w next Q
def AL {tys:Array TypeId} (hb:BT P f=true) (hxs:evs l xs=some vs) (C:Calls P f vs.toArray w (TX A B))
 (hA:∀e w1,A e w1 -> ∃v,e = .returned v):Ng P n l (.call ⟨.value (.func f),xs.toArray,tys⟩) ty w A B:=λa dst pos after g next Q ha hn hp=>by
 have hargs:xs.map a.eval=vs:=ha.evs hxs;have e:(execOp a.eval ⟨dst,.call ⟨.value (.func f),xs.toArray,tys⟩,ty,pos,after,g⟩).run P w = .ok (.enter f vs.toArray) w:=by
  simp only [execOp,resolve,Act.eval,Deferred.ofValue,gE,gP,gw,invoke];rw [Dy hb];simp [<-hargs]
 unfold iB;rw [e];refine ir C λe w1 h=>?_
 rcases h with h|⟨c,rfl,h⟩
 . obtain ⟨v,rfl⟩:=hA e w1 h;exact hn v w1 h
 . exact hp c w1 h
def A4 {d:Nat} (M:Ng P n l op ty w A B) (O:gM d n=true) (k:∀v w1,A (.returned v) w1->LW P n ops Q rest ((d,v)::l) w1) (N:∀c w1,B c w1->QW n Q (.panic c) l w1) :
 LW P n ops Q (⟨some d,op,ty,pos,after,none⟩::rest) l w:=by
 unfold LW at k ⊢;unfold QW at N;intro a G;unfold wpList;rw [AQ (Bc rfl)];left;unfold Ng at M;exact M a _ _ _ _ _ _ G (λv w1 h=>k v w1 h _ (G.put O v)) (λc w1 h=>N c w1 h a G)
def O9 {K d:Nat} {x r:Sc} (V:ops.toList[i]? = some ⟨some d,op,ty,pos,after,none⟩) (N:Ng P n l op ty w A B) (X:gM d n=true)
 (k:∀v w1,A (.returned v) w1->S w1/\TW P n ops Q S K x ((d,v)::l) w1) (O:∀c w1,B c w1->QW n Q (.panic c) l w1) (U:TW P n ops Q S K r l w):TW P n ops Q S K (.fork i x r) l w:=by
 unfold TW at k U ⊢;unfold QW at O;unfold Ng at N;intro a G;refine ⟨?_,U a G⟩;have M:ops[i]? = some ⟨some d,op,ty,pos,after,none⟩:=by simpa using V
 unfold wpOp;rw [M];simp only;rw [AQ (Bc rfl)];left;exact N a _ _ _ _ _ _ G (λv w1 h=>⟨(k v w1 h).1,(k v w1 h).2 _ (G.put X v)⟩) (λc w1 h=>O c w1 h a G)
def Lc (P:Program) (t:TypeId):Bool:=match P.underlying t with
 | some (.struct _)=>true
 | _=>false
def Iw {t:TypeId} (h:Lc P t=true):∃G,P.underlying t=some (.struct G):=by
 unfold Lc at h;split at h
 . exact ⟨_,Af⟩
 . cases h
def TY {t:TypeId} (h:Lc P t=true) (G:ev l x=some v):Bh P n l S (.makeInterface t x) ty (.iface t v):=by
 obtain ⟨O,h⟩:=Iw h;unfold Bh;intro a w M pos after g N _;simp [execOp,N.ev G,Instr.makeInterface,AA h,gw]
def Rz {t u:TypeId} (h:Lc P t=true) (G:ev l x=some (.iface t v)):Bh P n l S (.typeAssert x u t true) ty (.tuple #[v,.bool true]):=by
 obtain ⟨O,h⟩:=Iw h;unfold Bh;intro a w M pos after g N _;simp [execOp,N.ev G,Instr.typeAssert,AA h,gw]
def Eo {f:Fn} {cs:List Operand} {us:lV} (G:evs l xs=some us) (M:evs l cs=some vs):Bh P n l S (.makeFunc f xs.toArray cs.toArray) ty (.func f us.toArray vs.toArray):=by
 unfold Bh;intro a w N pos after g h _;have e:=h.evs G;have O:=h.evs M;simp [execOp,Instr.makeFunc,e,O]
variable {tab:Tab}
def Jc {f:Fn} {us vs:Array Value} (T:TabOk P tab) (G:Az tab t=some (.func,sz)) (M:ev l x=some (.func f us vs)):Bh P n l S (.binOp .eql t x (.const .nilFunc) o) ty (.bool false):=by
 obtain ⟨a,b,c,N⟩:=(T _ _ _ G).under;unfold Bh;intro h w O pos after g U _;have V:(eqGuard .eql t x (.const .nilFunc) (.func f us vs) .nilFunc).run P w = .ok () w:=by unfold eqGuard;simp
 have X:(Op.equal t (.func f us vs) .nilFunc).run P w = .ok false w:=by
  show (iJ (9999+1) t (.func f us vs) .nilFunc).run P w=_;unfold iJ;simp [AA N,gw]
 have Y:h.eval (.const .nilFunc) = .nilFunc:=rfl;simp [execOp,U.ev M,Y,V,X,binOp]
def A0 (T:TabOk P tab) (G:Az tab t=some (.ptr e,sz)) (M:ev l x=some (.pointer (some q))):Bh P n l S (.binOp .eql t x (.const (.pointer none)) b) ty (.bool false):=by
 have N:=(T _ _ _ G).under;unfold Bh;intro h w O pos after g U _;have V:(eqGuard .eql t x (.const (.pointer none)) (.pointer (some q)) (.pointer none)).run P w = .ok () w:=by unfold eqGuard;simp
 have X:(Op.equal t (.pointer (some q)) (.pointer none)).run P w = .ok false w:=by
  show (iJ (9999+1) t (.pointer (some q)) (.pointer none)).run P w=_;unfold iJ;simp [AA N,gw]
 have Y:h.eval (.const (.pointer none)) = .pointer none:=rfl;simp [execOp,U.ev M,Y,V,X,binOp]
def VK {u:Nat} (T:TabOk P tab) (G:Az tab t=some (.iface,sz)) (M:ev l x=some (.iface u v)):Bh P n l S (.binOp .eql t x (.const .nilIface) b) ty (.bool false):=by
 obtain ⟨a,N⟩:=(T _ _ _ G).under;unfold Bh;intro h w O pos after g U _;have V:(eqGuard .eql t x (.const .nilIface) (.iface u v) .nilIface).run P w = .ok () w:=by unfold eqGuard;simp
 have X:(Op.equal t (.iface u v) .nilIface).run P w = .ok false w:=by
  show (iJ (9999+1) t (.iface u v) .nilIface).run P w=_;unfold iJ;simp [AA N,gw]
 have Y:h.eval (.const .nilIface) = .nilIface:=rfl;simp [execOp,U.ev M,Y,V,X,binOp]
def TZ (T:TabOk P tab) (G:Az tab t=some (.iface,sz)) (M:ev l x=some .nilIface):Bh P n l S (.binOp .eql t x (.const .nilIface) b) ty (.bool true):=by
 obtain ⟨a,N⟩:=(T _ _ _ G).under;unfold Bh;intro h w O pos after g U _;have V:(eqGuard .eql t x (.const .nilIface) .nilIface .nilIface).run P w = .ok () w:=by unfold eqGuard;simp
 have X:(Op.equal t .nilIface .nilIface).run P w = .ok true w:=by
  show (iJ (9999+1) t .nilIface .nilIface).run P w=_;unfold iJ;simp [AA N,gw]
 have Y:h.eval (.const .nilIface) = .nilIface:=rfl;simp [execOp,U.ev M,Y,V,X,binOp]
end
def CM (late:List Nat) (i:Nat):Bool:= !(late.contains i)
def N5 (ops:Array Oper) (late free0:List Nat) (i:Nat):Prop:= ∀(listed:Array Bool) (j:Nat) (o:Oper),DC ops listed->(∀k∈free0,listed.getD k false=true)->listed.getD j true=false->CM late j=false->ops[j]? = some o->(∀e∈o.after,iw .any e=true->listed.getD e.on false=true)->listed.getD i false=true
def N6 (ops:Array Oper) (late free0:List Nat) (j0:Nat):Bool:=((it ops.size).all λi=> !(CM late i)||(List.range' (i+1) (ops.size-(i+1))).any λm=>(iA m j0||CM late m)&&Ja ops m i)&&late.all λj=>free0.contains j||(iA j j0||Ja ops j j0)
def Ln {late free0:List Nat} (h:N6 c late free0 b=true) (hi:i<c.size) (hE:CM late i=true):N5 c late free0 i:=by
 simp only [N6,gu,List.all_eq_true,List.mem_range] at h;obtain ⟨h1,h2⟩:=h;intro G j o aa hF V hj ho O;have af:j∈late:=by
  unfold CM at hj;simpa using hj
 have M:=h2 j af;have M:(iA j b||Ja c j b)=true:=by
  rw [Bool.or_eq_true] at M;rcases M with N|N
  . exfalso;have U:=hF j (by simpa using N);rcases gK j G.size with h'|h'
    . simp [h'] at U V;rw [U] at V;cases V
    . simp [iv h'] at U
  . exact N
 simp only [Bool.or_eq_true] at M;have X:∀o0,c[b]? = some o0 -> ∀e∈o0.after,iw .any e=true->G.getD e.on false=true:=by
  intro o0 Y;rcases M with M|M
  . have ag:=ip M;subst ag;rw [ho] at Y;obtain rfl:=gB Y;exact O
  . obtain ⟨oj,e',ab,ah,ai,ac⟩:=Em M;rw [ho] at ab;obtain rfl:=gB ab;have U:=O e' ah ai;rw [ac] at U;exact aa b o0 Y U
 have key:∀d i,c.size-i<=d->i<c.size->CM late i=true->G.getD i false=true:=by
  intro d
  induction d with
  | zero=>intro i hd hi;omega
  | succ d ih=>
   intro i hd hi hE;have hg:=h1 i hi;rw [hE] at hg;simp only [Bool.not_true,Bool.false_or,List.any_eq_true,List.mem_range'_1,gu,Bool.or_eq_true] at hg;obtain ⟨m,hm,N,hw⟩:=hg;obtain ⟨om,e,ad,he,hb,ae⟩:=Em hw;rcases N with N|N
   . have aj:=ip N;subst aj;have:=X om ad e he hb;rwa [ae] at this
   . have U:=ih m Ab Ab N;have:=aa m om ad U e he hb;rwa [ae] at this
 exact key _ i (gI _) hi hE
section
variable {P:Program} {ops:Array Oper} {Q:Exit->Act->wD->Prop} {S S2:wD->Prop} {late free0:List Nat} {K:Nat}
def JT (P:Program) (ops:Array Oper) (Q:Exit->Act->wD->Prop) (S S2:wD->Prop) (late:List Nat) (K:Nat):Nat->Array Bool->Act->wD->Prop
 | 0,listed,a,w=>gQ .any ops listed=[]/\Q .normal a w
 | fuel+1,listed,a,w=>
  (gQ .any ops listed=[]->Q .normal a w) /\
  ∀i∈gQ .any ops listed,wpOp P ops Q i (λa' w'=>(CM late i=true->S w')/\(i<K->S2 w')/\JT P ops Q S S2 late K fuel (listed.setIfInBounds i true) a' w') a w
def Lo:∀(G:Nat) (M:Array Bool) (a:Act) (w:wD),JT P ops Q S S2 late K G M a w->wpAny P .any ops Q G M a w
 | 0,_,_,_,h=>h
 | G+1,_,_,_,h=>⟨h.1,λi N=>wpOp_mono (λO w' U=>Lo G _ O w' U.2.2) (h.2 i N)⟩
def MT {G:Array Bool} {j k:Nat} (h:G.getD k false=true):(G.setIfInBounds j true).getD k false=true:=by
 by_cases M:j=k
 . subst M;rcases gK j G.size with N|N
   . simp [N]
   . simp [iv N] at h
 . rw [getD_set_ne false M];exact h
def Jd {T:wD->Prop} (hi:ops[i]? = some oi) (ai:∀w,S w->S2 w) (hT:(CM late i=true/\N5 ops late free0 i/\T=S)\/(CM late i=false/\D7 ops K i/\T=S2)) (ab:∀(j:Nat) (o:Oper) cs b,ops[j]? = some o->o.op≠.select cs b)
 (hQ:∀c a w,Q (.panic c) (a.put oi.dst v) w->Q (.panic c) a w) :
 ∀(M:Nat) (G:Array Bool) (a:Act) (w:wD),DC ops G->(CM late i=true -> ∀k∈free0,G.getD k false=true) ->
  (∀j Z,ops[j]? = some Z->j≠i->G.getD j true=false->(∀e∈Z.after,iw .any e=true->e.on≠i)->oi.apart ops Z=true) ->
  i∈gQ .any ops G->YieldsIf P ops T oi v a->T w ->
  JT P ops Q S S2 late K M (G.setIfInBounds i true) (a.put oi.dst v) w->JT P ops Q S S2 late K (M+1) G a w:=by
 have af:∀w,T w->CM late i=true->S w:=λw h he=>by
  rcases hT with ⟨-,-,rfl⟩|⟨h0,-⟩
  . exact h
  . rw [h0] at he;cases he
 have ac:∀w,T w->S2 w:=λw h=>by
  rcases hT with ⟨-,-,rfl⟩|⟨-,-,rfl⟩
  . exact ai w h
  . exact h
 intro M
 induction M with
 | zero=>
  intro G a w _ _ _ hr hy hS H;refine ⟨λh=>(by rw [h] at hr;cases hr),λj hj=>?_⟩;by_cases N:j=i
  . subst N;exact hy.wpOp hi hS ⟨af w hS,λ_=>ac w hS,H⟩
  . have:=ready_mono hj N;rw [H.1] at this;cases this
 | succ M ih=>
  intro G a w ad hF U hr hy hS H;refine ⟨λh=>(by rw [h] at hr;cases hr),λj hj=>?_⟩;by_cases N:j=i
  . subst N;exact hy.wpOp hi hS ⟨af w hS,λ_=>ac w hS,H⟩
  . have h1:=H.2 j (ready_mono hj N);obtain ⟨V,Z,X,Y⟩:=mem_ready.1 hj;have O:¬G.getD i false=true:=λhc=>by
     have h0:=(mem_ready.1 hr).1;rcases gK i G.size with h'|h'
     . simp [h'] at h0 hc;rw [h0] at hc;cases hc
     . simp [iv h'] at hc
    have aj:∀w',(CM late j=true->S w')->(j<K->S2 w')->T w':=λw' h' h2=>by
     rcases hT with ⟨ak,ae,rfl⟩|⟨-,ae,rfl⟩
     . cases hej:CM late j
       . exact absurd (ae G j Z ad (hF ak) V hej X Y) O
       . exact h' hej
     . rcases gK j K with h|h
       . exact h2 h
       . exact absurd (ae G j Z ad h X Y) O
    have ag:∀e∈Z.after,iw .any e=true->e.on≠i:=λe he hb al=>O (al▸Y e he hb)
    have h2:=wpOp_putIf X (U j Z X N V ag) (λcs b=>ab i oi cs b hi) (λcs b=>ab j Z cs b X) hQ hy h1;have aa:∀k ok,ops[k]? = some ok->k≠i->(G.setIfInBounds j true).getD k true=false ->
     (∀e∈ok.after,iw .any e=true->e.on≠i)->oi.apart ops ok=true:=λk ok hk am O an=>by
     refine U k ok hk am ?_ an;by_cases ah:j=k
     . subst ah;exact V
     . rw [getD_set_ne true ah] at O;exact O
    refine wpOp_mono (λa' w' h3=>⟨h3.2.1,h3.2.2.1,ih (G.setIfInBounds j true) a' w' (ad.set hj) (λhE k hk=>MT (hF hE k hk)) aa (ready_mono hr (Ne.symm N)) h3.1 (aj w' h3.2.1 h3.2.2.1) ?_⟩) h2;rw [Array.setIfInBounds_comm _ _ N];exact h3.2.2.2
end
inductive ScE where
 | done
 | pure (i:Nat) (r:ScE)
 | free (i:Nat) (r:ScE)
 | put (i:Nat) (r:ScE)
 | tail (k:Nat)
def ScE.ok (ops:Array Oper) (late free0:List Nat) (K:Nat):ScE->Nat->Array Bool->Bool
 | .done,_,listed=>(gQ .any ops listed).isEmpty
 | .pure i r,f+1,listed=>(free0.all λk=>listed.getD k false)&&CM late i&&(gQ .any ops listed).contains i&&Region.free .any ops listed i&&ScE.ok ops late free0 K r f (listed.setIfInBounds i true)
 | .free i r,f+1,listed=> !(CM late i)&&gM i K&&(gQ .any ops listed).contains i&&Region.free .any ops listed i&&ScE.ok ops late free0 K r f (listed.setIfInBounds i true)
 | .put i r,f+1,listed=> !(CM late i)&&(gQ .any ops listed==[i])&&ScE.ok ops late free0 K r f (listed.setIfInBounds i true)
 | .tail k,f,listed=>iy K k&&iA (f+k) ops.size&&(List.range' k f).all (λj=> !(CM late j))&&E1 ops f k listed
 | _,_,_=>false
def HTE (P:Program) (ops:Array Oper) (Q:Exit->Act->wD->Prop) (S S2:wD->Prop):ScE->Act->wD->Prop
 | .done,a,w=>Q .normal a w
 | .pure i r,a,w=>S w /\ ∃o v,ops.toList[i]? = some o/\YieldsIf P ops S o v a/\HTE P ops Q S S2 r (a.put o.dst v) w
 | .free i r,a,w=>S2 w /\ ∃o v,ops.toList[i]? = some o/\YieldsIf P ops S2 o v a/\HTE P ops Q S S2 r (a.put o.dst v) w
 | .put i r,a,w=>wpOp P ops Q i (λa' w'=>S2 w'/\HTE P ops Q S S2 r a' w') a w
 | .tail k,a,w=>wpList P ops Q (ops.toList.drop k) a w
def IK {P:Program} {ops:Array Oper} {Q:Exit->Act->wD->Prop} {S S2:wD->Prop} {late:List Nat} {K:Nat}:∀(f k:Nat) (G:Array Bool) (a:Act) (w:wD),K<=k->f+k=ops.size->(∀j,k<=j->j<k+f->CM late j=false)->E1 ops f k G=true->wpList P ops Q (ops.toList.drop k) a w->JT P ops Q S S2 late K f G a w
 | 0,k,G,a,w,Z,hf,O,M,h=>by
  have:ops.toList.drop k=[]:=List.drop_eq_nil_of_le (by simp;omega);rw [this] at h;exact ⟨by simpa [E1] using M,h⟩
 | f+1,k,G,a,w,Z,hf,O,M,h=>by
  simp only [E1,gu,beq_iff_eq] at M;have U:k<ops.toList.length:=by simp;omega
  rw [gW U] at h;refine ⟨λe=>absurd (M.1.symm.trans e) AN,λi V=>?_⟩;rw [M.1] at V;simp only [ia] at V;subst V;have Y:=O i (gI _) Ab;have N:∀j,i+1<=j->j<i+1+f->CM late j=false:=λj h1 h2=>O j Ab Ab
  have ho:ops[i]? = some ops.toList[i]:=by simp
  unfold wpList at h;unfold wpOp;rw [ho];simp only;split
  . rename_i X;rw [AQ X] at h;rcases h with h|h
    . exact gq (Oper.wp_mono (λa' w' h'=>⟨λe=>(by rw [Y] at e;cases e),λe=>by omega,IK f (i+1) _ a' w' Ab Ab N M.2 h'⟩) h)
    . exact gt h
  . rename_i X;rw [AB X] at h;exact ⟨λe=>(by rw [Y] at e;cases e),λe=>by omega,IK f (i+1) _ _ w Ab Ab N M.2 h⟩
def HTE.any {P:Program} {ops:Array Oper} {Q:Exit->Act->wD->Prop} {S S2:wD->Prop} {late free0:List Nat} {K:Nat} (V:∀w,S w->S2 w) (O:∀i,i<K->D7 ops K i) (hs:Region.noSelect ops=true) (X:∀i,i<ops.size->CM late i=true->N5 ops late free0 i) (hQ:C5 Q) :
 ∀(s:ScE) (f:Nat) (G:Array Bool) (a:Act) (w:wD),DC ops G->HTE P ops Q S S2 s a w->ScE.ok ops late free0 K s f G=true->JT P ops Q S S2 late K f G a w
 | .done,f,G,a,w,U,h,M=>by
  have Y:gQ .any ops G=[]:=by simpa [ScE.ok] using M
  cases f with
  | zero=>exact ⟨Y,h⟩
  | succ f=>exact ⟨λ_=>h,by rw [Y];simp⟩
 | .tail k,f,G,a,w,U,h,M=>by
  simp only [ScE.ok,gu,List.all_eq_true,List.mem_range'_1] at M;exact IK f k G a w (gS M.1.1.1) (ip M.1.1.2) (λj h1 h2=>by simpa using M.1.2 j ⟨h1,h2⟩) M.2 h
 | .pure i r,0,G,a,w,U,h,M=>by simp [ScE.ok] at M
 | .pure i r,f+1,G,a,w,U,h,M=>by
  simp only [ScE.ok,gu] at M;obtain ⟨hS,o,v,ho,hy,Y⟩:=h;have Z:ops[i]? = some o:=by simpa using ho
  have aa:i<ops.size:=(Array.getElem?_eq_some_iff.1 Z).1;have N:i∈gQ .any ops G:=by simpa using M.1.1.2
  exact Jd (T:=S) (free0:=free0) Z V (gq ⟨M.1.1.1.2,X i aa M.1.1.1.2,rfl⟩) (Region.noSelect_spec hs) (λc a w=>hQ o.dst v c a w) f G a w U (λ_ k ab=>List.all_eq_true.1 M.1.1.1.1 k ab) (Region.free_spec Z M.1.2) N hy hS
   (HTE.any V O hs X hQ r f _ _ w (U.set N) Y M.2)
 | .free i r,0,G,a,w,U,h,M=>by simp [ScE.ok] at M
 | .free i r,f+1,G,a,w,U,h,M=>by
  simp only [ScE.ok,gu,Bool.not_eq_true'] at M;obtain ⟨hS,o,v,ho,hy,Y⟩:=h;have Z:ops[i]? = some o:=by simpa using ho
  have N:i∈gQ .any ops G:=by simpa using M.1.1.2
  have ac:=gS M.1.1.1.2;exact Jd (T:=S2) (free0:=free0) Z V (gt ⟨M.1.1.1.1,O i ac,rfl⟩) (Region.noSelect_spec hs) (λc a w=>hQ o.dst v c a w) f G a w U (λe=>(by rw [M.1.1.1.1] at e;cases e)) (Region.free_spec Z M.1.2) N hy hS
   (HTE.any V O hs X hQ r f _ _ w (U.set N) Y M.2)
 | .put i r,0,G,a,w,U,h,M=>by simp [ScE.ok] at M
 | .put i r,f+1,G,a,w,U,h,M=>by
  simp only [ScE.ok,gu,Bool.not_eq_true',beq_iff_eq] at M;obtain ⟨⟨h1,h2⟩,h3⟩:=M;refine ⟨λe=>(by rw [h2] at e;cases e),λj hj=>?_⟩;rw [h2] at hj;simp only [ia] at hj;subst hj;have N:j∈gQ .any ops G:=by rw [h2];simp
  exact wpOp_mono (λa' w' h'=>⟨λe=>(by rw [h1] at e;cases e),λ_=>h'.1,HTE.any V O hs X hQ r f _ a' w' (U.set N) h'.2 h3⟩) h
def Yj (P:Program) (n:Nat) (ops:Array Oper) (Q:Exit->Act->wD->Prop) (S S2:wD->Prop) (s:ScE) (l:Sl) (w:wD):Prop:= ∀a,Env n l a->HTE P ops Q S S2 s a w
section draws
variable {P:Program} {n:Nat} {ops:Array Oper} {Q:Exit->Act->wD->Prop} {S S2:wD->Prop} {l:Sl} {w:wD}
 {d i:Nat} {ty:TypeId} {pos:String} {after:Array Edge} {r:ScE}
def EM (S S2:wD->Prop) (late free0:List Nat) (j0 K:Nat) (s:ScE) (V:∀w,S w->S2 w) (hm:P.follows .mixedOrders=true) (N:(Region.noSelect G.toArray&&(iy G.length K||II G.toArray K)&&N6 G.toArray late free0 j0&&ScE.ok G.toArray late free0 K s G.length (iD G.length false))=true) (hQ:C5 Q)
 (h:∀w1,Ext w w1->w1.heap=w.heap->Yj P n G.toArray Q S S2 s l w1):CW P n (.region b G.toArray true) Q l w:=by
 unfold CW;intro a ha;simp only [gu] at N;have h2:=h w.drew (Ext.refl w).drew rfl;have X:DC G.toArray (iD G.length false):=λk o _ M=>by
  exfalso;rcases gK k G.length with Y|Y
  . simp [Y] at M
  . simp [iv,Y] at M
 have O:∀i,i<K->D7 G.toArray K i:=by
  by_cases Z:K<G.toArray.size
  . have M:=N.1.1.2;simp only [Bool.or_eq_true] at M;rcases M with M|M
    . have:=gS M;simp at Z;omega
    . exact DM M Z
  . intro i hi U j o _ hj ho _;have aa:j<G.toArray.size:=(Array.getElem?_eq_some_iff.1 ho).1;omega
 refine wp_region_any hm (Lo (S:=S) (S2:=S2) (late:=late) (K:=K) _ _ _ _ ?_);have:=HTE.any V O N.1.1.1 (λi hi hE=>Ln N.1.2 hi hE) hQ s G.length (iD G.length false) a w.drew X (h2 a ha) N.2;simpa using this
def Dt {k:Nat} (M:Ll k ops.toList=some G) (h:LW P n ops Q G l w):Yj P n ops Q S S2 (.tail k) l w:=by
 unfold LW at h;intro a N;show wpList P ops Q (ops.toList.drop k) a w;rw [Gx M];exact h a N
def An (h:S w) (N:ops.toList[i]? = some ⟨some d,op,ty,pos,after,none⟩) (G:Bh P n l S op ty v) (O:gM d n=true) (k:Yj P n ops Q S S2 r ((d,v)::l) w) :
 Yj P n ops Q S S2 (.pure i r) l w:=by
 unfold Bh at G;exact λa M=>⟨h,_,v,N,gq ⟨rfl,λw h=>G a w _ _ _ _ M h⟩,k _ (M.put O v)⟩
def Bl (h:S2 w) (N:ops.toList[i]? = some ⟨some d,op,ty,pos,after,none⟩) (G:Bh P n l S2 op ty v) (O:gM d n=true) (k:Yj P n ops Q S S2 r ((d,v)::l) w) :
 Yj P n ops Q S S2 (.free i r) l w:=by
 unfold Bh at G;exact λa M=>⟨h,_,v,N,gq ⟨rfl,λw h=>G a w _ _ _ _ M h⟩,k _ (M.put O v)⟩
def Du (V:ops.toList[i]? = some ⟨none,op,ty,pos,after,none⟩) (O:BD P n l op ty w N)
 (k:∀v w1,N v w1->S2 w1/\Yj P n ops Q S S2 r l w1):Yj P n ops Q S S2 (.put i r) l w:=λa G=>by
 unfold BD at O;have M:ops[i]? = some ⟨none,op,ty,pos,after,none⟩:=by simpa using V
 show wpOp P ops Q i _ a w;unfold wpOp;rw [M];simp only;rw [AQ (Bc rfl)];left;exact O a _ _ _ _ _ _ G (λv w1 U=>⟨(k _ w1 U).1,(k _ w1 U).2 _ G⟩) (λw1 h=>⟨(k _ w1 h).1,(k _ w1 h).2 _ G⟩)
end draws
attribute [local irreducible] Go.Calls
def Lp (x:Int):Int:=IntKind.i64.wrap x
def N7 (op:BinOp) (x y:Int):Int:=match op with
 | .and=>Lp (BitVec.ofInt 64 x &&& BitVec.ofInt 64 y).toNat
 | .or=>Lp (BitVec.ofInt 64 x ||| BitVec.ofInt 64 y).toNat
 | _=>Lp (BitVec.ofInt 64 x ^^^ BitVec.ofInt 64 y).toNat
section
variable {P:Program} {n:Nat} {l:Sl} {S:wD->Prop} {ty:TypeId} {x y:Operand} {t t':Nat} {a b:Int}
def Yk (G:ev l x=some (.int .i64 a)) (M:ev l y=some (.int .i64 b)):Bh P n l S (.binOp .and t x y t') ty (.int .i64 (N7 .and a b)):=by
 unfold Bh;intro d w N pos after g h _;simp only [execOp,h.ev G,h.ev M,gE,Bs,gw,binOp,Op.intBits];rfl
def Z8 (G:ev l x=some (.int .i64 a)) (M:ev l y=some (.int .i64 b)):Bh P n l S (.binOp .or t x y t') ty (.int .i64 (N7 .or a b)):=by
 unfold Bh;intro d w N pos after g h _;simp only [execOp,h.ev G,h.ev M,gE,Bs,gw,binOp,Op.intBits];rfl
def SS (G:ev l x=some (.int .i64 a)) (M:ev l y=some (.int .i64 b)):Bh P n l S (.binOp .xor t x y t') ty (.int .i64 (N7 .xor a b)):=by
 unfold Bh;intro d w N pos after g h _;simp only [execOp,h.ev G,h.ev M,gE,Bs,gw,binOp,Op.intBits];rfl
def Je (h:ev l x=some (.int .i64 a)) (G:ev l y=some (.int .i64 b)):Bh P n l S (.binOp .add t x y t') ty (.int .i64 (Lp (a+b))):=Ia h G rfl
def Pb (h:ev l x=some (.int .i64 a)) (G:ev l y=some (.int .i64 b)):Bh P n l S (.binOp .sub t x y t') ty (.int .i64 (Lp (a-b))):=AK h G rfl
def VL (h:ev l x=some (.int .i64 a)) (G:ev l y=some (.int .i64 b)):Bh P n l S (.binOp .mul t x y t') ty (.int .i64 (Lp (a*b))):=Ib h G rfl
def VM (h:ev l x=some (.int .i64 a)) (G:ev l y=some (.int .i64 b)) (M:b≠0):Bh P n l S (.binOp .quo t x y t') ty (.int .i64 (Lp (a.tdiv b))):=Gz h G M rfl
def VN (h:ev l x=some (.int .i64 a)) (G:ev l y=some (.int .i64 b)) (M:b≠0):Bh P n l S (.binOp .rem t x y t') ty (.int .i64 (a.tmod b)):=La h G M rfl
def Lq (h:ev l x=some (.int .i64 a)):Bh P n l S (.unOp .neg t x) ty (.int .i64 (Lp (0-a))):=by
 unfold Bh;intro d w G pos after g M _;simp [execOp,M.ev h,Op.unary,Op.intArith,Lp]
end
def Vw (b:Bool):Int:=if b then 1 else 0
def T0 (k x y:Int):Int×Int:=if y=0 then (0,11) else if k=11 then (Lp (x.tdiv y),0) else (x.tmod y,0)
def Ep (k x y:Int):Int×Int:=
 if k=8 then (Lp (x+y),0) else if k=9 then (Lp (x-y),0) else if k=10 then (Lp (x*y),0) else if k=11\/k=12 then T0 k x y
 else if k=13 then (N7 .and x y,0) else if k=14 then (N7 .or x y,0) else if k=15 then (N7 .xor x y,0)
 else if k=16 then (Vw (decide (x=y)),0) else if k=17 then (Vw (decide (x≠y)),0) else if k=18 then (Vw (decide (x<y)),0)
 else if k=19 then (Vw (decide (x<=y)),0) else if k=20 then (Vw (decide (y<x)),0) else if k=21 then (Vw (decide (y<=x)),0)
 else if k=22 then (Vw (decide (x≠0/\y≠0)),0) else if k=23 then (Vw (decide (x≠0\/y≠0)),0) else (0,7)
def Er (k x:Int):Int×Int:=if k=6 then (Lp (0-x),0) else if k=7 then (Vw (decide (x=0)),0) else (0,7)
def CO (b:Bool) (w:wD):Calls prog 244 #[.bool b] w λe w'=>e = .returned (.int .i64 (Vw b))/\w=w':=by
 cases b
 . refine Ad func244 ntmps244 rfl rfl ?_;refine kR ?_;exact ⟨rfl,rfl⟩
 . refine Ad func244 ntmps244 rfl rfl ?_;refine kR ?_;exact ⟨rfl,rfl⟩
def Pc (k x y:Int) (w:wD):Calls prog 245 #[.int .u8 k,.int .i64 x,.int .i64 y] w λe w'=>e = .returned (.tuple #[.int .i64 (T0 k x y).1,.int .i64 (T0 k x y).2])/\w=w':=by
 refine Ad func245 ntmps245 rfl rfl ?_
 focus
  refine eK ?_;refine Ay rfl (λh=>?_) (λh=>?_);refine kT ?_;rotate_left;refine eK ?_;refine Ay rfl (λG=>?_) (λG=>?_);refine eK ?_;refine C1 (VM rfl rfl Af) (kT ?_);rotate_left;refine eK ?_;refine C1 (VN rfl rfl Af) (kT ?_);rotate_left
 all_goals (refine ⟨?_,rfl⟩;unfold T0;simp [*])
def N8 (k x:Int) (w:wD):Calls prog 239 #[.int .u8 k,.int .i64 x] w λe w'=>e = .returned (.tuple #[.int .i64 (Er k x).1,.int .i64 (Er k x).2])/\w=w':=by
 refine Ad func239 ntmps239 rfl rfl ?_
 focus
  refine eK ?_;refine Ay rfl (λh=>?_) (λh=>?_);refine eK ?_;refine C1 (Lq rfl) (kT ?_);rotate_left;refine eK ?_;refine Ay rfl (λG=>?_) (λG=>?_);refine kC (CO _ _) ?_;rintro _ M ⟨⟨⟩,rfl⟩;refine kT ?_;rotate_left;refine kT ?_;rotate_left
 all_goals (refine ⟨?_,rfl⟩;unfold Er;simp [*])
set_option maxHeartbeats 8000000 in
def ST (k x y:Int) (w:wD):Calls prog 240 #[.int .u8 k,.int .i64 x,.int .i64 y] w λe w'=>e = .returned (.tuple #[.int .i64 (Ep k x y).1,.int .i64 (Ep k x y).2])/\w=w':=by
 refine Ad func240 ntmps240 rfl rfl ?_
 focus
  refine eK ?_;refine Ay rfl (λc1=>?_) (λc1=>?_);refine eK ?_;refine C1 (Je rfl rfl) (kT ?_);rotate_left;refine eK ?_;refine Ay rfl (λc2=>?_) (λc2=>?_);refine eK ?_;refine C1 (Pb rfl rfl) (kT ?_);rotate_left;refine eK ?_;refine Ay rfl (λc3=>?_) (λc3=>?_);refine eK ?_;refine C1 (VL rfl rfl) (kT ?_);rotate_left;refine eK ?_;refine Ay rfl (λc4=>?_) (λc4=>?_);refine kC (Pc _ _ _ _) ?_;rintro _ w5 ⟨⟨⟩,rfl⟩;refine kT ?_;rotate_left;refine eK ?_;refine Ay rfl (λc6=>?_) (λc6=>?_);refine kC (Pc _ _ _ _) ?_;rintro _ w7 ⟨⟨⟩,rfl⟩;refine kT ?_;rotate_left;refine eK ?_;refine Ay rfl (λc8=>?_) (λc8=>?_);refine eK ?_;refine C1 (Yk rfl rfl) (kT ?_);rotate_left;refine eK ?_;refine Ay rfl (λc9=>?_) (λc9=>?_);refine eK ?_;refine C1 (Z8 rfl rfl) (kT ?_);rotate_left;refine eK ?_;refine Ay rfl (λh=>?_) (λh=>?_);refine eK ?_;refine C1 (SS rfl rfl) (kT ?_);rotate_left;refine eK ?_;refine Ay rfl (λG=>?_) (λG=>?_);refine kC (CO _ _) ?_;rintro _ ab ⟨⟨⟩,rfl⟩;refine kT ?_;rotate_left;refine eK ?_;refine Ay rfl (λM=>?_) (λM=>?_);refine kC (CO _ _) ?_;rintro _ ac ⟨⟨⟩,rfl⟩;refine kT ?_;rotate_left;refine eK ?_;refine Ay rfl (λN=>?_) (λN=>?_);refine kC (CO _ _) ?_;rintro _ ad ⟨⟨⟩,rfl⟩;refine kT ?_;rotate_left;refine eK ?_;refine Ay rfl (λO=>?_) (λO=>?_);refine kC (CO _ _) ?_;rintro _ ae ⟨⟨⟩,rfl⟩;refine kT ?_;rotate_left;refine eK ?_;refine Ay rfl (λU=>?_) (λU=>?_);refine kC (CO _ _) ?_;rintro _ af ⟨⟨⟩,rfl⟩;refine kT ?_;rotate_left;refine eK ?_;refine Ay rfl (λV=>?_) (λV=>?_);refine kC (CO _ _) ?_;rintro _ ag ⟨⟨⟩,rfl⟩;refine kT ?_;rotate_left;refine eK ?_;refine Ay rfl (λX=>?_) (λX=>?_);refine eK ?_;refine BY rfl rfl rfl (λY=>?_) (λY=>?_);refine kC (CO _ _) ?_;rintro _ ah ⟨⟨⟩,rfl⟩;refine kT ?_;rotate_left;refine kC (CO _ _) ?_;rintro _ ai ⟨⟨⟩,rfl⟩;refine kT ?_;rotate_left;refine eK ?_;refine Ay rfl (λZ=>?_) (λZ=>?_)
  refine eK ?_;refine BY rfl rfl rfl (λaa=>?_) (λaa=>?_);refine kC (CO _ _) ?_;rintro _ aj ⟨⟨⟩,rfl⟩;refine kT ?_;rotate_left;refine kC (CO _ _) ?_;rintro _ ak ⟨⟨⟩,rfl⟩;refine kT ?_;rotate_left;refine kT ?_;rotate_left
 all_goals (refine ⟨?_,rfl⟩;unfold Ep;simp [*])
end Bk
