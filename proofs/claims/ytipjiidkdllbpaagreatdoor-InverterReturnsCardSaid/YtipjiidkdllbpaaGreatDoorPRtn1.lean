/- Texts that the proofs of InverterReturns need. No condition. (Part 1 of 8.) -/
import Derived.Shelf.Slices.Clone
import Derived.Shelf.Lays2
import Derived.Shelf.Spec.SlicesInsertGrow
import Derived.Shelf.Slices.Delete
import Derived.Shelf.Slices.Equal
import Derived.Shelf.Lays
import Derived.Test.YtipjiidkdllbpaaGreatDoorProg
import Derived.WalkKit
import Derived.Orders
import Derived.OrdersHeld
import Derived.Lib.Hide
import Derived.Laws.AppendOwn
import Derived.IntWalk
import Derived.Lib.ItoaNum
import Derived.Laws.OwnMore
import Derived.Great.BuildSlice
import Derived.Shelf.Small.Strs
import Derived.Shelf.Strconv.Atoi
import Derived.Shelf.Strconv.Itoa0
import Derived.Shelf.Strconv.Itoa1
import Derived.Shelf.LaysM
import Derived.Shelf.Strconv.Itoa2
import Derived.Shelf.Strconv.Itoa3
import Derived.Shelf.Strconv.AtoiErrFast
import Derived.Shelf.Strconv.ParseIntEmpty
import Derived.Shelf.Strconv.AtoiFail
import Derived.Shelf.Strconv.Clone
import Derived.Shelf.Strconv.SyntaxError
import Derived.Shelf.LaysC
import Derived.Shelf.Strconv.ToError
import Derived.Shelf.Strconv.Lower
import Derived.Shelf.Strconv.ParseUint10
import Derived.Shelf.Strconv.ParseUint10Empty
import Derived.Shelf.Strconv.ParseUint10Any
import Derived.Shelf.Strconv.ParseInt10
import Derived.Shelf.Strconv.AtoiLong
import Derived.Shelf.Strconv.AtoiInnerAll
import Derived.Shelf.Strconv.RangeError
import Derived.Shelf.Strconv.ToErrorRange
import Derived.Shelf.Strconv.AtoiAll
import Derived.Shelf.Strconv.ErrVarAll
import Derived.Shelf.Strings.Search1
import Derived.Shelf.Strings.Prefix
import Derived.Lib.LazyBuf
import Derived.Lib.AtoiAll
import Derived.Lib.AtoiErrMem
import Derived.ArgAppend
import Derived.Lib.ConvBytes
import Derived.Laws.StructEq
import Derived.RangeFuncRecord
import Derived.RangeFuncLeaves
import Derived.RangeFuncSeq
import Derived.OrdersIn
import Derived.TacticsIn
import Derived.Recover
import Derived.ChangeArms
import Derived.Test.YtipjiidkdllbpaaGreatDoorRows
import Derived.Lib.LaidTab
import Derived.FnData
import Derived.LaidLaws
import Derived.ProofKit
import Derived.OpenShut
import Derived.Deep.DeepHandedRow
import Derived.ChangeMaps5
set_option linter.unusedSimpArgs false
set_option linter.unusedVariables false
set_option linter.defProp false
set_option maxRecDepth 100000
set_option maxHeartbeats 4000000
namespace Bk
abbrev wD := Go.World
abbrev lB := List UInt8
abbrev lV := List Go.Value
abbrev oA := Option Go.Addr
abbrev nP := Nat → Prop
end Bk
open Go.Proofs.Tryz
open List renaming getElem?_eq_getElem->bT,getD_eq_getElem?_getD->cB,length_cons->cF,getElem?_eq_none->cI,getElem?_append_left->cK,getElem_mem->cL,length_append->cP,getElem?_append_right->cW,take_length->dB,length_nil->dD,getElem?_cons_zero->dF,take_succ_eq_append_getElem->dG,drop_eq_getElem_cons->dH,replicate->dJ,mem_of_getElem?->dL,append_assoc->dP,mem_cons->dQ,getElem?_map->dZ,length_take->eH,not_mem_nil->eP
open Go.Lib renaming hid->bU
open Or renaming inl->bW,inr->bX
open Bool renaming and_eq_true->bZ,false_eq_true->dK
open Option.some renaming inj->cD,injEq->cE
open Go.Result renaming andThen->cG
open Nat renaming le_refl->cH,lt_or_ge->cO,zero_le->cQ,blt->cV,le_of_ble_eq_true->dE,eq_of_beq_eq_true->dO,le_trans->dV,ble->dW,beq->eC,zero_add->eJ
open Except renaming bind->cJ
open Go.Sem renaming run_bind->cU,run_pure->dC
open Go renaming Calls->cX
open Go.Value renaming slice->cY,int->dM,ownBlock->eR
open Go.Region renaming ready->cZ,binds->dT
open Go.IntWalk renaming i64_in->dA
open Go.Value.slice renaming injEq->dI
open Go.DataW renaming trod->dN
open Go.Builtin renaming zeroCells->dR
open List.cons renaming injEq->dU
open Array renaming getElem?_eq_none->dX,replicate->eO
open Go.Calls renaming mono->dY
open Go.Addr renaming add->eG
open Go.Oper renaming wp->eL
namespace Bk
abbrev As:= @if_neg
abbrev AG:= @if_pos
end Bk
namespace Go.Proofs
open Go.Shelf
def Tryz.lays2n15_ren:Go.Shelf.Ren:=⟨fun|15=>27|n=>n,fun|22=>30|3=>3|4=>4|n=>n,fun|n=>n⟩
def Tryz.lays2n15:Go.Proofs.Lays2.n15 prog Tryz.lays2n15_ren:={
 mixed:=by kernel_rfl
 f15:=func27.trans (congrArg some (by kernel_rfl))
 t3:=underlying3
 a3:=isAgg3
 z3:=sizeOf3
 v3:=zeroValue3
 t4:=underlying4
 a4:=isAgg4
 z4:=sizeOf4
 v4:=zeroValue4
 t22:=underlying30
 a22:=isAgg30
 z22:=sizeOf30
 v22:=zeroValue30
 i3:=by kernel_rfl }
def Tryz.lays2n21_ren:Go.Shelf.Ren:=⟨fun|21=>199|27=>205|28=>206|35=>211|39=>215|n=>n,fun|22=>30|3=>3|4=>4|0=>0|n=>n,fun|n=>n⟩
def Tryz.lays2n21:Go.Proofs.Lays2.n21 prog Tryz.lays2n21_ren:={
 mixed:=by kernel_rfl
 f21:=func199.trans (congrArg some (by kernel_rfl))
 f27:=func205.trans (congrArg some (by kernel_rfl))
 f28:=func206.trans (congrArg some (by kernel_rfl))
 f35:=func211.trans (congrArg some (by kernel_rfl))
 f39:=func215.trans (congrArg some (by kernel_rfl))
 t0:=underlying0
 a0:=isAgg0
 z0:=sizeOf0
 v0:=zeroValue0
 t3:=underlying3
 a3:=isAgg3
 z3:=sizeOf3
 v3:=zeroValue3
 t4:=underlying4
 a4:=isAgg4
 z4:=sizeOf4
 v4:=zeroValue4
 t22:=underlying30
 a22:=isAgg30
 z22:=sizeOf30
 v22:=zeroValue30
 i3:=by kernel_rfl }
def Tryz.lays2n23_ren:Go.Shelf.Ren:=⟨fun|23=>198|n=>n,fun|22=>30|3=>3|4=>4|0=>0|n=>n,fun|n=>n⟩
def Tryz.lays2n23:Go.Proofs.Lays2.n23 prog Tryz.lays2n23_ren:={
 mixed:=by kernel_rfl
 f23:=func198.trans (congrArg some (by kernel_rfl))
 t0:=underlying0
 a0:=isAgg0
 z0:=sizeOf0
 v0:=zeroValue0
 t3:=underlying3
 a3:=isAgg3
 z3:=sizeOf3
 v3:=zeroValue3
 t4:=underlying4
 a4:=isAgg4
 z4:=sizeOf4
 v4:=zeroValue4
 t22:=underlying30
 a22:=isAgg30
 z22:=sizeOf30
 v22:=zeroValue30
 i3:=by kernel_rfl }
def Tryz.laysn111_ren:Go.Shelf.Ren:=⟨fun|111=>42|n=>n,fun|28=>30|3=>3|4=>4|0=>0|n=>n,fun|n=>n⟩
def Tryz.laysn111:Go.Proofs.Lays.n111 prog Tryz.laysn111_ren:={
 mixed:=by kernel_rfl
 f111:=func42.trans (congrArg some (by kernel_rfl))
 t0:=underlying0
 a0:=isAgg0
 z0:=sizeOf0
 v0:=zeroValue0
 t3:=underlying3
 a3:=isAgg3
 z3:=sizeOf3
 v3:=zeroValue3
 t4:=underlying4
 a4:=isAgg4
 z4:=sizeOf4
 v4:=zeroValue4
 t28:=underlying30
 a28:=isAgg30
 z28:=sizeOf30
 v28:=zeroValue30 }
end Go.Proofs
namespace Bk
open Go Go.RowKit
def Ext (w w':wD):Prop:=Below w.heap.size w w'
def Ext.refl (w:wD):Ext w w:=Below.refl _ _
def Ext.trans {a b c:wD} (h:Ext a b) (k:Ext b c):Ext a c:=Below.trans h (Below.mono k h.size)
def Ext.alloc {a w:wD} (h:Ext a w) (o:Obj):Ext a (w.alloc o):=Below.alloc h h.size o
def Ext.drew {a w:wD} (h:Ext a w):Ext a w.drew:=Below.drew h
def Ext.size {a w:wD} (h:Ext a w):a.heap.size<=w.heap.size:=Below.size h
def Ext.block {a w:wD} (h:Ext a w) {k:Nat} (F:k<a.heap.size):w.heap[k]? = a.heap[k]? := Below.block h k F
def Ext.cells {a w:wD} (h:Ext a w) : ∀b o,b<a.heap.size->w.cell? ⟨b,o,none⟩=a.cell? ⟨b,o,none⟩:=fun b o F=>Below.cell (p:=⟨b,o,none⟩) h F
def Co {w:wD} {p:Addr} {v:Value} (h:w.cell? p=some v):p.block<w.heap.size:=by
 unfold World.cell? at h;rcases cO p.block w.heap.size with F|F
 . exact F
 . simp [dX F] at h
def Ext.keep {a w:wD} (h:Ext a w) {b o:Nat} {v:Value} (F:a.cell? ⟨b,o,none⟩=some v):w.cell? ⟨b,o,none⟩=some v:=
 (h.cells b o (Co F)).trans F
inductive Nd where
 | mk (kind num:Int) (name:lB) (kids:List Nd)
def Nd.kind:Nd->Int | .mk k _ _ _=>k
def Nd.num:Nd->Int | .mk _ n _ _=>n
def Nd.name:Nd->lB | .mk _ _ s _=>s
def Nd.kids:Nd->List Nd | .mk _ _ _ l=>l
abbrev str (l:lB):Value:=.string ⟨l.toArray⟩
abbrev Nd.val (t:Nd) (a:oA) (c:Nat):Value:=.agg #[.int .u8 t.kind,.int .i64 t.num,str t.name,.slice a t.kids.length c]
abbrev Nd.cells (t:Nd) (a:oA) (c:Nat):lV:=[.int .u8 t.kind,.int .i64 t.num,str t.name,.slice a t.kids.length c]
mutual
def Nd.sits (S:nP) (w:wD):Nd->oA->Prop
 | .mk _ _ _ l,a=>rowSits S w l a
def rowSits (S:nP) (w:wD):List Nd->oA->Prop
 | [],_=>True
 | t::r,a=> ∃b o a' c,a=some ⟨b,o,none⟩/\S b/\w.cell? ⟨b,o,none⟩=some (.int .u8 t.kind)/\w.cell? ⟨b,o+1,none⟩=some (.int .i64 t.num) /\
  w.cell? ⟨b,o+2,none⟩=some (str t.name)/\w.cell? ⟨b,o+3,none⟩=some (.slice a' t.kids.length c)/\t.sits S w a'/\rowSits S w r (some ⟨b,o+4,none⟩)
end
mutual
def Nd.wf:Nd->Prop
 | .mk k n s l=>0<=k/\k<=255 /\ -9223372036854775808<=n/\n<=9223372036854775807/\s.length<=9223372036854775807/\l.length<=9223372036854775807/\C9 l
def C9:List Nd->Prop
 | []=>True
 | t::r=>t.wf/\C9 r
end
mutual
def Nd.size:Nd->Nat
 | .mk _ _ _ l=>1+Aq l
def Aq:List Nd->Nat
 | []=>0
 | t::r=>t.size+Aq r
end
def BF {l:List Nd} (h:C9 l) : ∀t∈l,t.wf:=by
 induction l with
 | nil=>simp
 | cons x r G=>
  simp only [C9] at h;intro t F;rcases dQ.1 F with rfl|F
  . exact h.1
  . exact G h.2 t F
def DP {l:List Nd} {t:Nd} (h:t∈l):t.size<=Aq l:=by
 induction l with
 | nil=>cases h
 | cons x r F=>
  simp only [Aq];rcases dQ.1 h with rfl|h
  . omega
  . have:=F h;omega
def Nd.size_pos (t:Nd):1<=t.size:=by cases t;simp [Nd.size]
def Fi {S:nP} {w:wD} {l:List Nd} {a:oA} (h:rowSits S w l a) {i:Nat} {t:Nd} (F:l[i]? = some t) :
 ∃b o G c,a=some ⟨b,o,none⟩/\S b/\w.cell? ⟨b,o+i*4,none⟩=some (.int .u8 t.kind)/\w.cell? ⟨b,o+i*4+1,none⟩=some (.int .i64 t.num) /\
  w.cell? ⟨b,o+i*4+2,none⟩=some (str t.name)/\w.cell? ⟨b,o+i*4+3,none⟩=some (.slice G t.kids.length c)/\t.sits S w G:=by
 induction l generalizing i a with
 | nil=>simp at F
 | cons x r N=>
  simp only [rowSits] at h;obtain ⟨b,o,G,c,rfl,O,U,V,X,Y,Z,hr⟩:=h;cases i with
  | zero=>
   simp at F;subst F;exact ⟨b,o,G,c,rfl,O,U,V,X,Y,Z⟩
  | succ i=>
   obtain ⟨b',o',L,c',M,r⟩:=N hr (by simpa using F);simp only [cE,Addr.mk.injEq] at M;obtain ⟨rfl,rfl,-⟩:=M;refine ⟨b,o,L,c',rfl,r.1,?_⟩;rw [show o+(i+1)*4=o+4+i*4 from by omega];exact r.2
mutual
def Nd.sits_mono {S S':nP} {w w':wD} (hS : ∀b,S b->S' b) (hc : ∀b o v,S b->w.cell? ⟨b,o,none⟩=some v->w'.cell? ⟨b,o,none⟩=some v) :
 ∀(t:Nd) (a:oA),t.sits S w a->t.sits S' w' a
 | .mk _ _ _ l,a,h=>by
  simp only [Nd.sits] at h ⊢;exact Fx hS hc l a h
def Fx {S S':nP} {w w':wD} (hS : ∀b,S b->S' b) (hc : ∀b o v,S b->w.cell? ⟨b,o,none⟩=some v->w'.cell? ⟨b,o,none⟩=some v) :
 ∀(l:List Nd) (a:oA),rowSits S w l a->rowSits S' w' l a
 | [],_,_=>by simp [rowSits]
 | t::r,a,h=>by
  simp only [rowSits] at h ⊢;obtain ⟨b,o,a',c,rfl,hb,h0,h1,h2,h3,hs,hr⟩:=h;exact ⟨b,o,a',c,rfl,hS b hb,hc _ _ _ hb h0,hc _ _ _ hb h1,hc _ _ _ hb h2,hc _ _ _ hb h3,Nd.sits_mono hS hc t a' hs,Fx hS hc r _ hr⟩
end
def rowSits.ext {S:nP} {w w':wD} {l:List Nd} {a:oA} (h:rowSits S w l a) (e:Ext w w'):rowSits S w' l a:=
 Fx (fun _ h=>h) (fun _ _ _ _ F=>e.keep F) l a h
def Nd.sits.ext {S:nP} {w w':wD} {t:Nd} {a:oA} (h:t.sits S w a) (e:Ext w w'):t.sits S w' a:=
 Nd.sits_mono (fun _ h=>h) (fun _ _ _ _ F=>e.keep F) t a h
structure Fr (S:nP) (w w':wD):Prop where
 os:w'.os=w.os
 tape:w'.tape=w.tape
 output:w'.output=w.output
 size:w.heap.size<=w'.heap.size
 block : ∀k,k<w.heap.size -> ¬S k->w'.heap[k]? = w.heap[k]?
def Fr.refl (S:nP) (w:wD):Fr S w w:=⟨rfl,rfl,rfl,cH _,fun _ _ _=>rfl⟩
def Fr.trans {S:nP} {a b c:wD} (h:Fr S a b) (k:Fr S b c):Fr S a c:=
 ⟨k.os.trans h.os,k.tape.trans h.tape,k.output.trans h.output,dV h.size k.size,fun i F G=>(k.block i (Nat.lt_of_lt_of_le F h.size) G).trans (h.block i F G)⟩
def Fr.of_ext {S:nP} {a b:wD} (h:Ext a b):Fr S a b:=⟨Below.os h,Below.tape h,Below.output h,Below.size h,fun k F _=>Below.block h k F⟩
def Fr.alloc {S:nP} {a w:wD} (h:Fr S a w) (o:Obj):Fr S a (w.alloc o):=h.trans (.of_ext ((Ext.refl w).alloc o))
def Fr.drew {S:nP} {a w:wD} (h:Fr S a w):Fr S a w.drew:=h.trans (.of_ext (Ext.refl w).drew)
def Fr.setCell {S:nP} {a w:wD} (h:Fr S a w) (p:Addr) (v:Value) (F:S p.block\/a.heap.size<=p.block):Fr S a (w.setCell p v):=by
 refine ⟨h.os,h.tape,h.output,?_,fun k L G=>?_⟩
 . have:(w.setCell p v).heap.size=w.heap.size:=by simp [World.setCell]
   rw [this];exact h.size
 . rw [Below.heap_setCell _ _ _ _ (by rintro rfl;rcases F with F|F;exact G F;omega)];exact h.block k L G
def Fr.cells {S:nP} {a w:wD} (h:Fr S a w) : ∀b o,b<a.heap.size -> ¬S b->w.cell? ⟨b,o,none⟩=a.cell? ⟨b,o,none⟩:=
 fun b _ F G=>World.cell?_of_block (w:=a) (h.block b F G)
def Fr.keep {S:nP} {a w:wD} (h:Fr S a w) {b o:Nat} {v:Value} (G : ¬S b) (F:a.cell? ⟨b,o,none⟩=some v):w.cell? ⟨b,o,none⟩=some v:=
 (h.cells b o (Co F) G).trans F
def rowSits.fr {S T:nP} {w w':wD} {l:List Nd} {a:oA} (h:rowSits S w l a) (e:Fr T w w') (F : ∀b,S b -> ¬T b):rowSits S w' l a:=
 Fx (fun _ h=>h) (fun b _ _ G L=>e.keep (F b G) L) l a h
def Nd.sits.fr {S T:nP} {w w':wD} {t:Nd} {a:oA} (h:t.sits S w a) (e:Fr T w w') (F : ∀b,S b -> ¬T b):t.sits S w' a:=
 Nd.sits_mono (fun _ h=>h) (fun b _ _ G L=>e.keep (F b G) L) t a h
abbrev Sl:=List (Nat×Value)
def look:Sl->Nat->Option Value
 | [],_=>none
 | (k,v)::r,d=>match eC k d with
  | true=>some v
  | false=>look r d
def ev (l:Sl):Operand->Option Value
 | .tmp t=>look l t
 | .const v=>some v
 | .global g=>some (.pointer (some ⟨g,0,none⟩))
 | .func f=>some (.func (.func f) #[] #[])
def evs (l:Sl):List Operand->Option lV
 | []=>some []
 | x::r=>match ev l x with
  | none=>none
  | some v=>match evs l r with
   | none=>none
   | some vs=>some (v::vs)
structure Env (n:Nat) (l:Sl) (a:Act):Prop where
 size:a.tmps.size=n
 defers:a.defers=[]
 has : ∀d v,look l d=some v->a.tmps.getD d undef=v
def Env.ev {n:Nat} {l:Sl} {a:Act} (h:Env n l a) {x:Operand} {v:Value} (F:ev l x=some v):a.eval x=v:=by
 cases x with
 | tmp t=>exact h.has t v F
 | const c=>simpa [Bk.ev,Act.eval] using F
 | global g=>simpa [Bk.ev,Act.eval] using F
 | func f=>simpa [Bk.ev,Act.eval] using F
def Env.evs {n:Nat} {l:Sl} {a:Act} (h:Env n l a) : ∀ {xs:List Operand} {vs:lV},evs l xs=some vs->xs.map a.eval=vs
 | [],vs,F=>by simp [Bk.evs] at F;simp [F]
 | x::r,vs,F=>by
  simp only [Bk.evs] at F;cases h1:Bk.ev l x with
  | none=>simp [h1] at F
  | some v=>
   cases h2:Bk.evs l r with
   | none=>simp [h1,h2] at F
   | some us=>
    simp [h1,h2] at F;subst F;simp [h.ev h1,Env.evs h h2]
def It (k:Nat) (v:Value) (l:Sl) (d:Nat):look ((k,v)::l) d=if k=d then some v else look l d:=by
 simp only [look];by_cases h:k=d
 . subst h;simp
 . have:eC k d=false:=by
    cases hb:eC k d
    . rfl
    . exact absurd (dO hb) h
   rw [this,As h]
def Env.put {n:Nat} {l:Sl} {a:Act} (h:Env n l a) {d:Nat} (L:cV d n=true) (v:Value):Env n ((d,v)::l) (a.put (some d) v):=by
 have G:d<n:=dE L;refine ⟨by simp [Act.put,h.size],by simp [Act.put,h.defers],fun k u F=>?_⟩;rw [It] at F;simp only [Act.put];by_cases e:d=k
 . subst e;simp at F;subst F;simp [h.size,G]
 . rw [As e] at F;have:=h.has k u F;simpa [Array.getElem?_setIfInBounds_ne e] using this
def U3 (m l:Sl):Prop:= ∀d v,look m d=some v->look l d=some v
def Env.sub {n:Nat} {m l:Sl} {a:Act} (h:Env n l a) (F:U3 m l):Env n m a:=⟨h.size,h.defers,fun d v G=>h.has d v (F d v G)⟩
def Cy {l:Sl}:U3 [] l:=fun _ _ h=>by simp [look] at h
def AQ {m l:Sl} {d:Nat} {v:Value} (h:look l d=some v) (r:U3 m l):U3 ((d,v)::m) l:=fun k u F=>by
 rw [It] at F;by_cases e:d=k
 . subst e;simp at F;subst F;exact h
 . rw [As e] at F;exact r k u F
def Bx {m l:Sl} {d:Nat} {v F:Value} (h:look l d=some F) (e:F=v) (r:U3 m l):U3 ((d,v)::m) l:=AQ (e▸h) r
def CW (P:Program) (n:Nat) (c:Code) (Q:Exit->Act->wD->Prop) (l:Sl) (w:wD):Prop:= ∀a,Env n l a->c.wp P Q a w
def LW (P:Program) (n:Nat) (ops:Array Oper) (Q:Exit->Act->wD->Prop) (os:List Oper) (l:Sl) (w:wD):Prop:= ∀a,Env n l a->wpList P ops Q os a w
def QW (n:Nat) (Q:Exit->Act->wD->Prop) (e:Exit) (l:Sl) (w:wD):Prop:= ∀a,Env n l a->Q e a w
section code
variable {P:Program} {n:Nat} {Q:Exit->Act->wD->Prop} {l:Sl} {w:wD}
def CW.sub {c:Code} {m:Sl} (h:CW P n c Q m w) (F:U3 m l):CW P n c Q l w:=fun a G=>h a (G.sub F)
def Ai {x y:Code} (h:CW P n x (Exit.then (y.wp P Q) Q) l w):CW P n (.seq x y) Q l w:=fun a F=>wp_seq (h a F)
def Y0 {x y:Code} (I:Act->wD->Prop) (h:CW P n x (Exit.then I Q) l w) (k : ∀a w,I a w->y.wp P Q a w):CW P n (.seq x y) Q l w:=fun a F=>
 wp_seq (Code.wp_mono (fun e a w q=>by cases e<;>first|exact k _ _ q|exact q) (h a F))
def Ag {y:Code} (h:CW P n y Q l w):QW n (Exit.then (y.wp P Q) Q) .normal l w:=h
def To {I:Act->wD->Prop} (h : ∀a,Env n l a->I a w):QW n (Exit.then I Q) .normal l w:=h
def Ao {K:Act->wD->Prop} (h:QW n Q .ret l w):QW n (Exit.then K Q) .ret l w:=h
def A8 {K:Act->wD->Prop} {i:Nat} (h:QW n Q (.exit i) l w):QW n (Exit.then K Q) (.exit i) l w:=h
def Am (h:QW n Q .normal l w):CW P n .skip Q l w:=fun a F=>wp_skip (h a F)
def Eg {i:Nat} (h:QW n Q (.exit i) l w):CW P n (.exit i) Q l w:=fun a F=>wp_exit (h a F)
def AN (h:QW n Q .ret l w):CW P n .ret Q l w:=fun a F=>wp_ret (h a F)
def Av {i:Nat} {c:Code} (h:CW P n c (Exit.inBlock i Q) l w):CW P n (.block i c) Q l w:=fun a F=>wp_block (h a F)
def Af {i:Nat} (h:QW n Q .normal l w):QW n (Exit.inBlock i Q) .normal l w:=h
def AH {i:Nat} (h:QW n Q .ret l w):QW n (Exit.inBlock i Q) .ret l w:=h
def BQ {i:Nat} (h:QW n Q .normal l w):QW n (Exit.inBlock i Q) (.exit i) l w:=fun a F=>by simp only [Exit.inBlock,if_true];exact h a F
def Cb {c:Operand} {x y:Code} (G:ev l c=some (.bool true)) (h:CW P n x Q l w):CW P n (.cond c x y) Q l w:=fun a F=>wp_cond_true (F.ev G) (h a F)
def BD {c:Operand} {x y:Code} (G:ev l c=some (.bool false)) (h:CW P n y Q l w):CW P n (.cond c x y) Q l w:=fun a F=>wp_cond_false (F.ev G) (h a F)
def Ge {c:Operand} {x y:Code} {b:Bool} (F:ev l c=some (.bool b)) (G:b=true->CW P n x Q l w) (L:b=false->CW P n y Q l w):CW P n (.cond c x y) Q l w:=
 fun a h=>wp_cond_split (h.ev F) (fun e=>G e a h) (fun e=>L e a h)
def Ay {c:Operand} {x y:Code} {p:Prop} [Decidable p] (h:ev l c=some (.bool (decide p))) (F:p->CW P n x Q l w) (G : ¬p->CW P n y Q l w):CW P n (.cond c x y) Q l w:=
 Ge h (fun e=>F (of_decide_eq_true e)) (fun e=>G (of_decide_eq_false e))
def Rm {c:Operand} {x y:Code} {p:Prop} [Decidable p] (F:ev l c=some (.bool (decide p))) (G:p) (h:CW P n x Q l w):CW P n (.cond c x y) Q l w:=
 Ay F (fun _=>h) (fun e=>absurd G e)
def Fu {c:Operand} {x y:Code} {p:Prop} [Decidable p] (F:ev l c=some (.bool (decide p))) (G : ¬p) (h:CW P n y Q l w):CW P n (.cond c x y) Q l w:=
 Ay F (fun e=>absurd e G) (fun _=>h)
def EF {c:Operand} {x y:Code} {b:Bool} (F:ev l c=some (.bool b)) (G:b=true) (h:CW P n x Q l w):CW P n (.cond c x y) Q l w:=Cb (G▸F) h
def FK {c:Operand} {x y:Code} {b:Bool} (F:ev l c=some (.bool b)) (G:b=false) (h:CW P n y Q l w):CW P n (.cond c x y) Q l w:=BD (G▸F) h
def Aj {G:Nat} {F:List Oper} (h:LW P n F.toArray Q F l w):CW P n (.region G F.toArray false) Q l w:=fun a L=>wp_region_lit (h a L)
def A1 {ι:Type} {c:Code} (L:ι->Sl) (I:ι->wD->Prop) (μ:ι->Nat) (V:ι) (hs:U3 (L V) l) (h₀:I V w)
 (G : ∀x w,I x w->CW P n c (Exit.then (fun N w'=> ∃y,Env n (L y) N/\I y w'/\μ y<μ x) Q) (L x) w):CW P n (.loop c) Q l w:=by
 intro a ha;intro b k cs;have key : ∀m x a w,μ x=m->I x w->Env n (L x) a ->
  ∃e N w',Q e N w'/\Arrives P (lone (b.at a (.code c::.inLoop c::k)) cs w) b k cs e N w':=by
  intro m
  induction m using Nat.strongRecOn with
  | _ m ih=>
   intro x a w hm hI hE;obtain ⟨e,O,U,F,h⟩:=G x w hI a hE b (.inLoop c::k) cs;cases e with
   | normal=>
    obtain ⟨y,X,Y,Z⟩:=F;obtain ⟨e₂,a₂,w₂,aa,M⟩:=ih (μ y) (hm▸Z) y O U rfl Y X;exact ⟨e₂,a₂,w₂,aa,.of_steps (Steps.trans h (.one step_inLoop)) M⟩
   | exit id=>exact ⟨_,O,U,F,.pass (x:=.inLoop c) rfl (fun _ _=>.inl (by simp)) h⟩
   | goto l=>exact ⟨_,O,U,F,.pass (x:=.inLoop c) rfl (fun _ _=>.inl (by simp)) h⟩
   | ret=>exact ⟨_,O,U,F,.pass (x:=.inLoop c) rfl (fun _ _=>.inl (by simp)) h⟩
   | panic ch=>exact ⟨_,O,U,F,.pass (x:=.inLoop c) rfl (fun _ _=>.inl (by simp)) h⟩
   | outgrown=>exact ⟨_,O,U,F,h⟩
 obtain ⟨e,N,w',F,h⟩:=key (μ V) V a w rfl h₀ (ha.sub hs);exact ⟨e,N,w',F,.of_steps (.one step_loop) h⟩
def AI {ι:Type} {L:ι->Sl} {I:ι->wD->Prop} {μ:ι->Nat} {x:ι} (y:ι) (F:U3 (L y) l) (h:I y w) (G:μ y<μ x) :
 QW n (Exit.then (fun M w'=> ∃y,Env n (L y) M/\I y w'/\μ y<μ x) Q) .normal l w:=fun _ N=>⟨y,N.sub F,h,G⟩
end code
def GV:Nat->lV->Sl
 | _,[]=>[]
 | i,v::r=>(i,v)::GV (i+1) r
def GB (d:Nat) (v:Value) : ∀(vs:lV) (i:Nat),look (GV i vs) d=some v->i<=d/\vs[d-i]? = some v
 | [],_,h=>by simp [GV,look] at h
 | u::r,i,h=>by
  simp only [GV] at h;rw [It] at h;by_cases e:i=d
  . subst e;simp at h;subst h;simp
  . rw [As e] at h;obtain ⟨G,F⟩:=GB d v r (i+1) h;refine ⟨by omega,?_⟩;rw [show d-i=(d-(i+1))+1 from by omega];simpa using F
def Ac {P:Program} {f:FuncId} {fn:Func} {c:Code} {args:lV} {n:Nat} {w:wD} {R:Ending->wD->Prop}
 (G:P.funcs[f]? = some fn) (U:fn.ntmps=n) (L:fn.body=some c) (M:dW args.length n=true) (h:CW P n c (bodyPost P fn R) (GV 0 args) w):Calls P f args.toArray w R:=by
 refine calls_of_wp G L (h _ ?_);have N:args.length<=n:=by simpa using M
 refine ⟨by simp;omega,rfl,fun d v O=>?_⟩;obtain ⟨-,F⟩:=GB d v args 0 O;simp only [Nat.sub_zero] at F;have:d<args.length:=by
  rcases cO d args.length with h|h
  . exact h
  . rw [cI h] at F;cases F
 rw [bT this] at F;simp only [cE] at F;simp [Array.getElem?_append,this,F]
section ends
variable {P:Program} {fn:Func} {n:Nat} {R:Ending->wD->Prop} {l:Sl} {w:wD}
def Oh (h:fn.results = #[]) (F:R (.returned (.tuple #[])) w):QW n (bodyPost P fn R) .ret l w:=fun a G=>⟨G.defers,_,results_none h _ _ _,F⟩
def Bs (h:fn.results = #[]) (F:R (.returned (.tuple #[])) w):QW n (bodyPost P fn R) .normal l w:=fun a G=>⟨G.defers,_,results_none h _ _ _,F⟩
def AM {t:Nat} {v:Value} (h:fn.results = #[.tmp t]) (G:look l t=some v) (L:R (.returned v) w):QW n (bodyPost P fn R) .ret l w:=fun a F=>
 ⟨F.defers,_,results_tmp h _ _ _,by rw [F.has t v G];exact L⟩
def Be {t u:Nat} {v x:Value} (h:fn.results = #[.tmp t,.tmp u]) (G:look l t=some v) (L:look l u=some x) (M:R (.returned (.tuple #[v,x])) w):QW n (bodyPost P fn R) .ret l w:=fun a F=>
 ⟨F.defers,_,results_tmp2 h _ _ _,by rw [F.has t v G,F.has u x L];exact M⟩
end ends
inductive Sk where
 | int (k:IntKind)|bool|str|slice (e:Nat)|struct (fs:List (Nat×Nat))|array (len e:Nat)|ptr (e:Nat)|map (k e:Nat)|func|iface
abbrev Tab:=List (Nat×Sk×Nat)
def Az:Tab->Nat->Option (Sk×Nat)
 | [],_=>none
 | p::r,t=>match eC p.1 t with
  | true=>some p.2
  | false=>Az r t
def Sk.ok (P:Program) (t:Nat):Sk->Prop
 | .int k=>P.underlying t=some (.int k)
 | .bool=>P.underlying t=some .bool
 | .str=>P.underlying t=some .string
 | .slice e=>P.underlying t=some (.slice e)
 | .array n e=>P.underlying t=some (.array n e)
 | .ptr e=>P.underlying t=some (.pointer e)
 | .map k e=>P.underlying t=some (.map k e)
 | .func=> ∃a b c,P.underlying t=some (.func a b c)
 | .iface=> ∃a,P.underlying t=some (.interface a)
 | .struct fs=> ∃gs,P.underlying t=some (.struct gs)/\gs.size=fs.length /\ ∀(i o ft:Nat),fs[i]? = some (o,ft) -> ∃g:Field,gs[i]? = some g/\g.offset=o/\g.type=ft /\ ∃j:TypeInfo,P.info? ft=some j/\j.size≠0
def Sk.check (P:Program) (t:Nat):Sk->Bool
 | .int k=>match P.underlying t with|some (.int k')=>decide (k=k')|_=>false
 | .bool=>match P.underlying t with|some .bool=>true|_=>false
 | .str=>match P.underlying t with|some .string=>true|_=>false
 | .slice e=>match P.underlying t with|some (.slice e')=>eC e' e|_=>false
 | .array n e=>match P.underlying t with|some (.array n' e')=>eC n' n&&eC e' e|_=>false
 | .ptr e=>match P.underlying t with|some (.pointer e')=>eC e' e|_=>false
 | .map k e=>match P.underlying t with|some (.map k' e')=>eC k' k&&eC e' e|_=>false
 | .func=>match P.underlying t with|some (.func _ _ _)=>true|_=>false
 | .iface=>match P.underlying t with|some (.interface _)=>true|_=>false
 | .struct fs=>match P.underlying t with
  | some (.struct gs)=>eC gs.size fs.length&&(List.range fs.length).all fun i=>match fs[i]?,gs[i]? with
   | some (o,ft),some g=>eC g.offset o&&eC g.type ft&&match P.info? ft with|some j=> !Nat.beq j.size 0|none=>false
   | _,_=>false
  | _=>false
def Sk.ok_of_check {P:Program} {t:Nat} {s:Sk} (h:s.check P t=true):s.ok P t:=by
 cases s with
 | struct O=>
  simp only [Sk.check] at h;split at h
  . rename_i V X;simp only [bZ,List.all_eq_true,List.mem_range] at h;refine ⟨V,X,dO h.1,fun i o ft L=>?_⟩;have M:i<O.length:=by
     rcases cO i O.length with N|N
     . exact N
     . rw [cI N] at L;cases L
    have F:=h.2 i M;rw [L] at F;split at F
    . rename_i o' Y g U Z;simp only [cE,Prod.mk.injEq] at U;obtain ⟨rfl,rfl⟩:=U;simp only [bZ] at F;refine ⟨g,Z,dO F.1.1,dO F.1.2,?_⟩;have G:=F.2;split at G
      . rename_i j hj;exact ⟨j,hj,fun e=>by rw [e] at G;simp at G⟩
      . cases G
    . cases F
  . cases h
 | func=>
  simp only [Sk.check] at h;split at h
  . exact ⟨_,_,_,by assumption⟩
  . cases h
 | iface=>
  simp only [Sk.check] at h;split at h
  . exact ⟨_,by assumption⟩
  . cases h
 | int k=>simp only [Sk.check] at h;split at h<;>simp_all [Sk.ok]
 | bool=>simp only [Sk.check] at h;split at h<;>simp_all [Sk.ok]
 | str=>simp only [Sk.check] at h;split at h<;>simp_all [Sk.ok]
 | slice e=>simp only [Sk.check] at h;split at h<;>simp_all [Sk.ok]
 | ptr e=>simp only [Sk.check] at h;split at h<;>simp_all [Sk.ok]
 | array n e=>simp only [Sk.check] at h;split at h<;>simp_all [Sk.ok]
 | map n e=>simp only [Sk.check] at h;split at h<;>simp_all [Sk.ok]
structure TyOk (P:Program) (t:Nat) (s:Sk) (sz:Nat):Prop where
 under:s.ok P t
 info : ∃i,P.info? t=some i/\i.size=sz
def TabOk (P:Program) (tab:Tab):Prop:= ∀t s sz,Az tab t=some (s,sz)->TyOk P t s sz
def Tab.check (P:Program) (tab:Tab):Bool:=tab.all fun p=>p.2.1.check P p.1&&match P.info? p.1 with|some i=>eC i.size p.2.2|none=>false
def Tp {tab:Tab} {t:Nat} {x:Sk×Nat} (h:Az tab t=some x):(t,x)∈tab:=by
 induction tab with
 | nil=>simp [Az] at h
 | cons p r F=>
  simp only [Az] at h;split at h
  . rename_i G;have:=dO G;simp only [cE] at h;subst h this;exact List.mem_cons_self
  . exact List.mem_cons_of_mem _ (F h)
def TabOk.of_check {P:Program} {tab:Tab} (h:tab.check P=true):TabOk P tab:=fun t s sz G=>by
 have:=List.all_eq_true.1 h _ (Tp G);simp only [bZ] at this;refine ⟨Sk.ok_of_check this.1,?_⟩;have F:=this.2;split at F
 . rename_i i L;exact ⟨i,L,dO F⟩
 . cases F
def BB (P:Program) (n:Nat) (l:Sl) (S:wD->Prop) (op:Op) (ty:TypeId) (v:Value):Prop:=
 ∀a w dst pos after g,Env n l a->S w->(execOp a.eval ⟨dst,op,ty,pos,after,g⟩).run P w = .ok (.value v) w
section pur
variable {P:Program} {n:Nat} {l:Sl} {S:wD->Prop} {ty:TypeId} {tab:Tab}
def AL {x:Operand} {v:Value} (h:ev l x=some v):BB P n l S (.move x) ty v:=fun a w F pos after g G _=>by
 simp [execOp,G.ev h]
def I1 {x:Operand} {v:Value} (h:ev l x=some v):BB P n l S (.assign x) ty v:=fun a w F pos after g G _=>by
 simp [execOp,G.ev h]
def AF {t:Nat} {d:TypeDesc} (h:P.underlying t=some d) (w:wD):(underlying t).run P w = .ok d w:=by
 simp [underlying,program,Sem.run,h,bind,Sem.bind,pure]
def U7 {t:Nat} {i:TypeInfo} (h:P.info? t=some i) (w:wD):(Go.sizeOf t).run P w = .ok i.size w:=by
 simp [Go.sizeOf,typeInfo,program,Sem.run,h,bind,Sem.bind,pure]
def Ck {t:Nat} {s:Sk} {sz:Nat} (h:TyOk P t s sz) (w:wD):(Go.sizeOf t).run P w = .ok sz w:=by
 obtain ⟨i,F,G⟩:=h.info;simp [Go.sizeOf,typeInfo,program,Sem.run,F,bind,Sem.bind,pure,G]
def AO {x:Operand} {s f b o off h sz:Nat} {F:List (Nat×Nat)} (T:TabOk P tab) (L:ev l x=some (.pointer (some ⟨b,o,none⟩)))
 (M:Az tab s=some (.struct F,sz)) (N:F[f]? = some (off,h)):BB P n l S (.fieldAddr s x f) ty (.pointer (some ⟨b,o+off,none⟩)):=fun a w O pos after g U _=>by
 obtain ⟨gs,V,-,X⟩:=(T _ _ _ M).under;obtain ⟨fd,Y,Z,h5,j,h6,h7⟩:=X f off h N;have e:(Instr.fieldAt s (.pointer (some ⟨b,o,none⟩)) f).run P w = .ok (.pointer (some ⟨b,o+off,none⟩)) w:=by
  simp only [Instr.fieldAt,cU,AF V,cG,Y,Instr.sureAddr,dC,fieldPlace,h5,Z];simp only [U7 h6,h7,if_false,dC,eG];by_cases G:off=0
  . subst G;simp
  . simp [G]
 simp [execOp,U.ev L,e]
def BN {x:Operand} {s f b o F sz:Nat} {h:List (Nat×Nat)} (T:TabOk P tab) (G:ev l x=some (.pointer (some ⟨b,o,none⟩)))
 (L:Az tab s=some (.struct h,sz)) (M:h[f]? = some (0,F)):BB P n l S (.fieldAddr s x f) ty (.pointer (some ⟨b,o,none⟩)):=AO T G L M
def Sk.agg:Sk->Bool
 | .struct _ | .array _ _=>true
 | _=>false
def DG {t:Nat} {s:Sk} {sz:Nat} (h:TyOk P t s sz) (w:wD):(isAgg t).run P w = .ok s.agg w:=by
 have:=h.under;cases s with
 | struct G=>obtain ⟨L,F,-⟩:=this;simp [isAgg,AF F,cG,Sk.agg]
 | func=>obtain ⟨_,_,_,F⟩:=this;simp [isAgg,AF F,cG,Sk.agg]
 | iface=>obtain ⟨_,F⟩:=this;simp [isAgg,AF F,cG,Sk.agg]
 | _=>simp [isAgg,AF this,cG,Sk.agg]
def An {x:Operand} {t sz:Nat} {s:Sk} {p:Addr} {v:Value} (T:TabOk P tab) (h:Az tab t=some (s,sz)) (F:s.agg=false) (G:ev l x=some (.pointer (some p)))
 (L : ∀w,S w->w.cell? p=some v):BB P n l S (.load t x) ty v:=fun a w M pos after g N O=>by
 have e:(Instr.loadAt t (.pointer (some p))).run P w = .ok v w:=by
  simp only [Instr.loadAt,Instr.sureAddr,cU,dC,cG,loadVar,DG (T _ _ _ h),F];simp [load,Sem.run,L w O]
 simp [execOp,N.ev G,e]
def Row (w:wD) (p:Addr) (vs:lV):Prop:= ∀i v,vs[i]? = some v->w.cell? (p.add i)=some v
def CM {w:wD} {p:Addr} {vs:lV} (h:Row w p vs):(loadCells p vs.length).run P w = .ok vs.toArray w:=
 run_loadCells_list w p vs h
def Iu {x:Operand} {t sz:Nat} {s:Sk} {p:Addr} {vs:lV} (T:TabOk P tab) (h:Az tab t=some (s,sz)) (F:s.agg=true) (G:ev l x=some (.pointer (some p)))
 (L:vs.length=sz) (M : ∀w,S w->Row w p vs):BB P n l S (.load t x) ty (.agg vs.toArray):=fun a w N pos after g O U=>by
 have e:(Instr.loadAt t (.pointer (some p))).run P w = .ok (.agg vs.toArray) w:=by
  simp only [Instr.loadAt,Instr.sureAddr,cU,dC,cG,loadVar,DG (T _ _ _ h),F,if_true,Ck (T _ _ _ h)];rw [<-L,CM (M w U)]
 simp [execOp,O.ev G,e]
def Cl {x:Operand} {t sz:Nat} {s:Sk} {p:Addr} {vs:lV} (T:TabOk P tab) (h:Az tab t=some (s,sz)) (F:s.agg=true) (G:ev l x=some (.pointer (some p)))
 (L : ∀w,S w->Row w p vs) (M:vs.length=sz):BB P n l S (.load t x) ty (.agg vs.toArray):=Iu T h F G M L
def Bf {x i:Operand} {t e sz h b o len cap:Nat} {k:IntKind} {j:Int} {L:Sk} (T:TabOk P tab) (M:Az tab t=some (.slice e,sz)) (N:Az tab e=some (L,h))
 (O:ev l x=some (.slice (some ⟨b,o,none⟩) len cap)) (U:ev l i=some (.int k j)) (V:0<=j) (X:j<len):BB P n l S (.indexAddr t x i) ty (.pointer (some ⟨b,o+j.toNat*h,none⟩)):=fun a w Y pos after g F _=>by
 have Z:P.underlying t=some (.slice e):=(T _ _ _ M).under;have e:(Instr.indexAt t (.slice (some ⟨b,o,none⟩) len cap) (.int k j)).run P w = .ok (.pointer (some ⟨b,o+j.toNat*h,none⟩)) w:=by
  simp only [Instr.indexAt,asIntOf,cU,dC,cG,AF Z];simp only [V,X,and_self,if_true,cU,Ck (T _ _ _ N),cG,dC,eG];by_cases G:j.toNat*h=0
  . simp [G]
  . simp [G]
 simp [execOp,F.ev O,F.ev U,e]
def Bz {op:BinOp} {t:Nat} {x y:Operand} {k h:IntKind} {a b:Int} {w:wD}:(eqGuard op t x y (.int k a) (.int h b)).run P w = .ok () w:=by
 unfold eqGuard;cases op<;>simp
def IQ {op:BinOp} {t:Nat} {x y:Operand} {a b:ByteArray} {w:wD}:(eqGuard op t x y (.string a) (.string b)).run P w = .ok () w:=by
 unfold eqGuard;cases op<;>simp
def Jr {α:Type} [BEq α] [LawfulBEq α] [DecidableEq α] (a b:α):(a==b)=decide (a=b):=by
 rw [Bool.eq_iff_iff];simp
section ints
variable {x y:Operand} {t t':Nat} {k:IntKind} {a b c:Int}
def Oi (F:ev l x=some (.int k a)) (G:ev l y=some (.int k b)) (L:k.wrap (a+b)=c):BB P n l S (.binOp .add t x y t') ty (.int k c):=fun a w M pos after g h _=>by
 subst L;simp [execOp,h.ev F,h.ev G,Bz,binOp,Op.intArith]
def Bq (F:ev l x=some (.int k a)) (G:ev l y=some (.int k b)) (L:k.wrap (a-b)=c):BB P n l S (.binOp .sub t x y t') ty (.int k c):=fun a w M pos after g h _=>by
 subst L;simp [execOp,h.ev F,h.ev G,Bz,binOp,Op.intArith]
def W8 (F:ev l x=some (.int k a)) (G:ev l y=some (.int k b)) (L:k.wrap (a*b)=c):BB P n l S (.binOp .mul t x y t') ty (.int k c):=fun a w M pos after g h _=>by
 subst L;simp [execOp,h.ev F,h.ev G,Bz,binOp,Op.intArith]
def W9 (F:ev l x=some (.int k a)) (G:ev l y=some (.int k b)):BB P n l S (.binOp .eql t x y t') ty (.bool (decide (a=b))):=fun a w L pos after g h _=>by
 simp [execOp,h.ev F,h.ev G,Bz,binOp,Op.intCmp,Jr]
def Xa (F:ev l x=some (.int k a)) (G:ev l y=some (.int k b)):BB P n l S (.binOp .neq t x y t') ty (.bool (decide (a≠b))):=fun a w L pos after g h _=>by
 simp [execOp,h.ev F,h.ev G,Bz,binOp,Op.intCmp,bne,Jr]
def Xb (F:ev l x=some (.int k a)) (G:ev l y=some (.int k b)):BB P n l S (.binOp .lss t x y t') ty (.bool (decide (a<b))):=fun a w L pos after g h _=>by
 simp [execOp,h.ev F,h.ev G,Bz,binOp,Op.intCmp]
def Xc (F:ev l x=some (.int k a)) (G:ev l y=some (.int k b)):BB P n l S (.binOp .leq t x y t') ty (.bool (decide (a<=b))):=fun a w L pos after g h _=>by
 simp [execOp,h.ev F,h.ev G,Bz,binOp,Op.intCmp]
def Xd (F:ev l x=some (.int k a)) (G:ev l y=some (.int k b)):BB P n l S (.binOp .gtr t x y t') ty (.bool (decide (b<a))):=fun a w L pos after g h _=>by
 simp [execOp,h.ev F,h.ev G,Bz,binOp,Op.intCmp]
def Xe (F:ev l x=some (.int k a)) (G:ev l y=some (.int k b)):BB P n l S (.binOp .geq t x y t') ty (.bool (decide (b<=a))):=fun a w L pos after g h _=>by
 simp [execOp,h.ev F,h.ev G,Bz,binOp,Op.intCmp]
end ints
def Lr (a:lB):(⟨a.toArray⟩:ByteArray).toList=a:=by
 simp [ByteArray.toList_eq]
section strs
variable {x y:Operand} {t t':Nat} {a b:lB}
def U8 (F:ev l x=some (str a)) (G:ev l y=some (str b)):BB P n l S (.binOp .eql t x y t') ty (.bool (decide (a=b))):=fun _ w L pos after g h _=>by
 simp only [execOp,h.ev F,h.ev G,cU,IQ,cG,binOp,Op.stringOp,dC,Lr,Jr]
def U9 (G:ev l x=some (str a)) (L:ev l y=some (str b)):BB P n l S (.binOp .neq t x y t') ty (.bool (decide (a≠b))):=fun _ w M pos after g F _=>by
 simp only [execOp,F.ev G,F.ev L,cU,IQ,cG,binOp,Op.stringOp,dC,Lr];congr 3;by_cases h:a=b<;>simp [h]
def Xf {q:Bool} (h:ev l x=some (.bool q)):BB P n l S (.unOp .not t x) ty (.bool !q):=fun _ w F pos after g G _=>by
 simp [execOp,G.ev h,Op.unary]
def B6 {c:Operand} {q:Bool} {u:Value} (F:ev l c=some (.bool q)) (G:ev l x=some u) (L:q=true):BB P n l S (.pick c x y) ty u:=fun _ w M pos after g h _=>by
 subst L;simp [execOp,h.ev F,h.ev G,asBool]
def B0 {c:Operand} {q:Bool} {v:Value} (F:ev l c=some (.bool q)) (G:ev l y=some v) (L:q=false):BB P n l S (.pick c x y) ty v:=fun _ w M pos after g h _=>by
 subst L;simp [execOp,h.ev F,h.ev G,asBool]
def Fy {c:Operand} {p:Prop} [Decidable p] {u:Value} (h:ev l c=some (.bool (decide p))) (F:ev l x=some u) (G:p):BB P n l S (.pick c x y) ty u:=B6 h F (decide_eq_true G)
def Gf {c:Operand} {p:Prop} [Decidable p] {v:Value} (h:ev l c=some (.bool (decide p))) (F:ev l y=some v) (G : ¬p):BB P n l S (.pick c x y) ty v:=B0 h F (decide_eq_false G)
def Pk {i:Nat} {v:Value} {vs:lV} (h:ev l x=some (.tuple vs.toArray)) (F:vs[i]? = some v):BB P n l S (.extract x i) ty v:=fun _ w G pos after g L _=>by
 simp [execOp,L.ev h,Instr.extract,F]
def Pm (T:TabOk P tab) {sz:Nat} {pt:Bool} (h:Az tab t=some (.str,sz)) (F:ev l x=some (str a)):BB P n l S (.call ⟨.builtin .len,#[x],#[t]⟩) ty (.int .i64 a.length):=fun _ w G pos after g L _=>by
 have M:P.underlying t=some .string:=(T _ _ _ h).under;have N:(⟨a.toArray⟩:ByteArray).size=a.length:=by simp [ByteArray.size]
 simp [execOp,resolve,invoke,builtin,Builtin.len_,L.ev F,AF M,cG,goInt,N]
def Cp (T:TabOk P tab) {e sz:Nat} {p:oA} {len cap:Nat} (h:Az tab t=some (.slice e,sz)) (F:ev l x=some (.slice p len cap)):BB P n l S (.call ⟨.builtin .len,#[x],#[t]⟩) ty (.int .i64 len):=fun _ w G pos after g L _=>by
 have M:P.underlying t=some (.slice e):=(T _ _ _ h).under;simp [execOp,resolve,invoke,builtin,Builtin.len_,L.ev F,AF M,cG,goInt]
end strs
end pur
def Blk (w:wD) (b:Nat) (vs:lV):Prop:= ∃ty,w.heap[b]? = some (.cells vs.toArray ty (0,0))
def Blk.lt {w:wD} {b:Nat} {vs:lV} (h:Blk w b vs):b<w.heap.size:=by
 obtain ⟨ty,h⟩:=h;rcases cO b w.heap.size with F|F
 . exact F
 . rw [dX F] at h;cases h
def Blk.cell {w:wD} {b i:Nat} {vs:lV} {v:Value} (h:Blk w b vs) (F:vs[i]? = some v):w.cell? ⟨b,i,none⟩=some v:=by
 obtain ⟨ty,h⟩:=h;simp [World.cell?,h,F]
def Blk.row {w:wD} {b:Nat} {vs:lV} (h:Blk w b vs):Row w ⟨b,0,none⟩ vs:=fun i v F=>by
 have:(⟨b,0,none⟩:Addr).add i=⟨b,i,none⟩:=by unfold eG;by_cases G:i=0<;>simp [G]
 rw [this];exact h.cell F
def Blk.free {w:wD} {b o:Nat} {vs:lV} (h:Blk w b vs):w.frozen? ⟨b,o,none⟩=false:=by
 obtain ⟨ty,h⟩:=h;simp [World.frozen?,h]
def Blk.ext {w w':wD} {b:Nat} {vs:lV} (h:Blk w b vs) (e:Ext w w'):Blk w' b vs:=by
 have F:=h.lt;obtain ⟨ty,h⟩:=h;exact ⟨ty,by rw [e.block F];exact h⟩
def Blk.fr {S:nP} {w w':wD} {b:Nat} {vs:lV} (h:Blk w b vs) (e:Fr S w w') (F : ¬S b):Blk w' b vs:=by
 have G:=h.lt;obtain ⟨ty,h⟩:=h;exact ⟨ty,by rw [e.block b G F];exact h⟩
def Blk.set {w:wD} {b i:Nat} {vs:lV} (h:Blk w b vs) (v:Value):Blk (w.setCell ⟨b,i,none⟩ v) b (vs.set i v):=by
 have F:=h.lt;obtain ⟨ty,h⟩:=h;refine ⟨ty,?_⟩;simp [World.setCell,Array.getElem?_modify,h]
def Row.at {w:wD} {b o i:Nat} {vs:lV} {v:Value} (h:Row w ⟨b,o,none⟩ vs) (F:vs[i]? = some v):w.cell? ⟨b,o+i,none⟩=some v:=by
 have:=h i v F;have e:(⟨b,o,none⟩:Addr).add i=⟨b,o+i,none⟩:=by unfold eG;by_cases G:i=0<;>simp [G]
 rwa [e] at this
def Row.at0 {w:wD} {b o:Nat} {vs:lV} {v:Value} (h:Row w ⟨b,o,none⟩ vs) (F:vs[0]? = some v):w.cell? ⟨b,o,none⟩=some v:=h.at F
def Tr (p:Addr) (i:Nat):(p.add i).block=p.block:=by unfold eG;split<;>rfl
def Tt {w:wD} {p:Addr} {v:Value} (h:w.cell? p=some v):p.spot=none:=by
 unfold World.cell? at h;split at h
 . cases hs:p.spot with
   | none=>rfl
   | some q=>simp [hs] at h
 . cases h
def Row.ext {w w':wD} {p:Addr} {vs:lV} (h:Row w p vs) (e:Ext w w'):Row w' p vs:=fun i v G=>by
 have F:=h i v G;have L:=Co F;rw [Below.cell e L];exact F
def Row.fr {S:nP} {w w':wD} {p:Addr} {vs:lV} (h:Row w p vs) (e:Fr S w w') (G : ¬S p.block):Row w' p vs:=fun i v L=>by
 have F:=h i v L;have M:=Co F;rw [World.cell?_of_block (w:=w) (e.block _ M (by rw [Tr];exact G))];exact F
structure New (w w1:wD) (b:Nat) (vs:lV):Prop where
 pos:b=w.heap.size
 blk:Blk w1 b vs
 ext:Ext w w1
 size:w1.heap.size=b+1
def EU (w:wD) (vs:lV) (ty:TypeId):New w (w.alloc (.cells vs.toArray ty (0,0))) w.heap.size vs:=
 ⟨rfl,⟨ty,by show (w.heap.push _)[w.heap.size]? = _;simp⟩,(Ext.refl w).alloc _,by show (w.heap.push _).size=_;simp⟩
def Bl:lV->Nat->lV->lV
 | vs,_,[]=>vs
 | vs,o,u::r=>Bl (vs.set o u) (o+1) r
structure Put (w w1:wD) (b:Nat) (vs:lV):Prop where
 blk:Blk w1 b vs
 fr:Fr (· = b) w w1
 size:w1.heap.size=w.heap.size
def Value.one:Value->Bool
 | .agg _ | .tuple _=>false
 | _=>true
def Nh {P:Program} {w:wD} {b o:Nat} {vs:lV} (h:Blk w b vs) (F:o<vs.length) {v:Value} (G:Value.one v=true) {α:Type} (k:Sem α) :
 (Sem.store .plain ⟨b,o,none⟩ v k).run P w=k.run P (w.setCell ⟨b,o,none⟩ v):=by
 have L:=h.cell (bT F);have M:=h.free (o:=o);cases v<;>first|(simp [Value.one] at G;done)|simp [Sem.run,L,M]
def FL {P:Program} : ∀(us:lV) (w:wD) (b o i:Nat) (vs:lV),Blk w b vs->o+i+us.length<=vs.length->us.all Value.one=true ->
 ∃w1,(storeCells ⟨b,o,none⟩ us i).run P w = .ok () w1/\Put w w1 b (Bl vs (o+i) us)
 | [],w,b,o,i,vs,h,_,_=>⟨w,rfl,h,Fr.refl _ _,rfl⟩
 | u::r,w,b,o,i,vs,h,L,F=>by
  simp only [cF] at L;simp only [List.all_cons,bZ] at F;have M:(⟨b,o,none⟩:Addr).add i=⟨b,o+i,none⟩:=by unfold eG;by_cases N:i=0<;>simp [N]
  have e:(storeCells ⟨b,o,none⟩ (u::r) i).run P w=(storeCells ⟨b,o,none⟩ r (i+1)).run P (w.setCell ⟨b,o+i,none⟩ u):=by
   simp only [storeCells,store,M,bind,Sem.bind];exact Nh h (by omega) F.1 _
  obtain ⟨w1,O,G⟩:=FL (P:=P) r _ b o (i+1) _ (h.set (i:=o+i) u) (by simp;omega) F.2;refine ⟨w1,by rw [e,O],G.blk,((Fr.refl (· = b) w).setCell ⟨b,o+i,none⟩ u (bW rfl)).trans G.fr,?_⟩;rw [G.size];simp [World.setCell]
def Bo {o:Oper} {y:Nat->Option Bool} (h:o.guard=none):Region.wanted o y=true:=by unfold Region.wanted;rw [h]
section seqs
variable {P:Program} {n:Nat} {ops:Array Oper} {Q:Exit->Act->wD->Prop} {rest:List Oper} {l:Sl} {w:wD} {tab:Tab}
 {d:Nat} {ty:TypeId} {pos:String} {after:Array Edge}
def Ak (h:QW n Q .normal l w):LW P n ops Q [] l w:=h
def CD {op:Op} {v:Value} (F:BB P n l (fun x=>x=w) op ty v) (G:cV d n=true) (k:LW P n ops Q rest ((d,v)::l) w) :
 LW P n ops Q (⟨some d,op,ty,pos,after,none⟩::rest) l w:=fun a h=>by
 unfold wpList;rw [AG (Bo rfl)];left;unfold eL;rw [F a w _ _ _ _ h rfl];exact k _ (h.put G v)
def BM (ops:Array Oper) (j:Nat):Option Nat:=(ops.toList[j]?).bind (·.dst)
def GC {n:Nat} {l:Sl} {a:Act} (G:Env n l a) {ops:Array Oper} {j dj:Nat} {h b:Bool} {o:Oper} (M:o.guard=some (j,h)) (N:BM ops j=some dj) (O:cV dj n=true) (U:look l dj=some (.bool b)) :
 Region.wanted o (yielded ops a.tmps)=(b==h):=by
 have L:=G.has dj _ U;have F:dj<a.tmps.size:=by rw [G.size];exact dE O
 have V:a.tmps[dj]? = some (.bool b):=by
  rw [Array.getD_eq_getD_getElem?,Array.getElem?_eq_getElem F] at L;rw [Array.getElem?_eq_getElem F];simpa using L
 have X:(ops[j]?).bind (·.dst)=some dj:=by simpa [BM] using N
 unfold Region.wanted yielded;simp only [M,X,Option.bind_some,V];cases b<;>cases h<;>rfl
def Bm {op:Op} {j dj:Nat} {h b:Bool} (G:BM ops j=some dj) (L:cV dj n=true) (M:look l dj=some (.bool b)) (N:(b==h)=false) (O:cV d n=true)
 (k:LW P n ops Q rest ((d,undef)::l) w):LW P n ops Q (⟨some d,op,ty,pos,after,some (j,h)⟩::rest) l w:=fun a F=>by
 unfold wpList;rw [GC F rfl G L M,N];exact k _ (F.put O undef)
def Bh {op:Op} {j dj:Nat} {h b:Bool} (G:BM ops j=some dj) (L:cV dj n=true) (M:look l dj=some (.bool b)) (N:(b==h)=true)
 (k:LW P n ops Q (⟨some d,op,ty,pos,after,none⟩::rest) l w):LW P n ops Q (⟨some d,op,ty,pos,after,some (j,h)⟩::rest) l w:=fun a F=>by
 have:=k a F;unfold wpList at this ⊢;rw [AG (by rw [GC F rfl G L M,N])];rw [AG (Bo rfl)] at this;exact this
section guards
variable {op:Op} {j dj:Nat} {p:Prop} [Decidable p]
def AP (h:BM ops j=some dj) (F:cV dj n=true) (G:look l dj=some (.bool (decide p))) (L : ¬p)
 (k:LW P n ops Q (⟨some d,op,ty,pos,after,none⟩::rest) l w):LW P n ops Q (⟨some d,op,ty,pos,after,some (j,false)⟩::rest) l w:=Bh h F G (by simp [L]) k
def AZ (h:BM ops j=some dj) (F:cV dj n=true) (G:look l dj=some (.bool (decide p))) (L:p) (M:cV d n=true)
 (k:LW P n ops Q rest ((d,undef)::l) w):LW P n ops Q (⟨some d,op,ty,pos,after,some (j,false)⟩::rest) l w:=Bm h F G (by simp [L]) M k
end guards
def B5 (P:Program) (n:Nat) (l:Sl) (op:Op) (ty:TypeId) (w:wD) (K:Option Value->wD->Prop):Prop:=
 ∀a dst pos after g (next:Act->wD->Prop) (Q:Exit->Act->wD->Prop),Env n l a->(∀v w',K (some v) w'->next (a.put dst v) w')->(∀w',K none w'->next (a.put dst undef) w')->(⟨dst,op,ty,pos,after,g⟩:Oper).wp P a w next Q
def AC {op:Op} {K:Option Value->wD->Prop} (G:B5 P n l op ty w K) (L:cV d n=true) (k : ∀v w1,K (some v) w1->LW P n ops Q rest ((d,v)::l) w1) (M : ∀w1,¬K none w1) :
 LW P n ops Q (⟨some d,op,ty,pos,after,none⟩::rest) l w:=fun a F=>by
 unfold wpList;rw [AG (Bo rfl)];left;exact G a _ _ _ _ _ _ F (fun v w1 N=>k v w1 N _ (F.put L v)) (fun w1 h=>absurd h (M w1))
def Br {op:Op} {K:Option Value->wD->Prop} (G:B5 P n l op ty w K) (k : ∀v w1,K v w1->LW P n ops Q rest l w1) :
 LW P n ops Q (⟨none,op,ty,pos,after,none⟩::rest) l w:=fun a F=>by
 unfold wpList;rw [AG (Bo rfl)];left;exact G a _ _ _ _ _ _ F (fun v w1 L=>k _ w1 L _ F) (fun w1 h=>k _ w1 h _ F)
end seqs
section does
variable {P:Program} {n:Nat} {l:Sl} {w:wD} {tab:Tab} {ty:TypeId}
def YN (w:wD) (vs:lV):Option Value->wD->Prop
 | some v,w1=> ∃b,v = .pointer (some ⟨b,0,none⟩)/\New w w1 b vs
 | none,_=>False
def Hv {x:Operand} {t:Nat} {v:Value} {vs:lV} (hx:ev l x=some v) (hv:v.cells=vs.toArray):B5 P n l (.box t x) ty w (YN w vs):=fun a dst pos after g next Q ha hn _=>by
 have e:(execOp a.eval ⟨dst,.box t x,ty,pos,after,g⟩).run P w = .ok (.value (.pointer (some ⟨w.heap.size,0,none⟩))) (w.alloc (.cells vs.toArray t (0,0))):=by
  simp [execOp,ha.ev hx,Instr.box,newVar,newRow,newObj,Sem.run,hv,bind,Sem.bind,pure]
 unfold eL;rw [e];exact hn _ _ ⟨_,rfl,EU _ _ _⟩
abbrev EV:=List (Nat×lV)
def CN (P:Program):EV->Prop
 | []=>True
 | p::r=>((P.info? p.1).bind (·.zero)).map Value.cells=some p.2.toArray/\CN P r
def Da:EV->Nat->Option lV
 | [],_=>none
 | p::r,t=>match eC p.1 t with
  | true=>some p.2
  | false=>Da r t
def FM {zt:EV} (h:CN P zt) {t:Nat} {vs:lV} (F:Da zt t=some vs) : ∃i v,P.info? t=some i/\i.zero=some v/\v.cells=vs.toArray:=by
 induction zt with
 | nil=>simp [Da] at F
 | cons p r L=>
  simp only [Da] at F;split at F
  . rename_i M;have:=dO M;simp only [cE] at F;subst F this;have G:=h.1;cases hi:P.info? p.1 with
    | none=>rw [hi] at G;simp at G
    | some i=>
     rw [hi] at G;cases hz:i.zero with
     | none=>simp [hz] at G
     | some v=>exact ⟨i,v,rfl,hz,by simpa [hz] using G⟩
  . exact L h.2 F
def Bt {zt:EV} {t:Nat} {vs:lV} (Z:CN P zt) (hz:Da zt t=some vs):B5 P n l (.alloc t) ty w (YN w vs):=fun a dst pos after g next Q ha hn _=>by
 obtain ⟨i,v,h1,h2,h3⟩:=FM Z hz;have e:(execOp a.eval ⟨dst,.alloc t,ty,pos,after,g⟩).run P w = .ok (.value (.pointer (some ⟨w.heap.size,0,none⟩))) (w.alloc (.cells vs.toArray t (0,0))):=by
  simp [execOp,Instr.alloc,zeroValue,typeInfo,program,newVar,newRow,newObj,Sem.run,h1,h2,h3,bind,Sem.bind,pure]
 unfold eL;rw [e];exact hn _ _ ⟨_,rfl,EU _ _ _⟩
def ZR (w:wD) (b:Nat) (vs:lV):Option Value->wD->Prop
 | none,w1=>Put w w1 b vs
 | some _,_=>False
def GW {x y:Operand} {t sz b o:Nat} {s:Sk} {v:Value} {vs us:lV} (T:TabOk P tab) (ht:Az tab t=some (s,sz)) (hx:ev l x=some (.pointer (some ⟨b,o,none⟩))) (hy:ev l y=some v)
 (hv:v.cells=us.toArray) (hl:us.length=sz) (h1:us.all Value.one=true) (hb:Blk w b vs) (ho:dW (o+us.length) vs.length=true):B5 P n l (.store t x y) ty w (ZR w b (Bl vs o us)):=fun a dst pos after g next Q ha _ hn=>by
 obtain ⟨w1,e1,e2⟩:=FL (P:=P) us w b o 0 vs hb (by simpa using ho) h1;have e:(execOp a.eval ⟨dst,.store t x y,ty,pos,after,g⟩).run P w = .ok .skip w1:=by
  have hcs:v.cells.toList=us:=by rw [hv]
  have hsz:v.cells.size=sz:=by rw [hv];simpa using hl
  simp only [execOp,ha.ev hx,ha.ev hy,Instr.storeAt,Instr.sureAddr,cU,dC,cG,storeVar,Ck (T _ _ _ ht),hsz,hcs,e1];simp only [ne_eq,not_true,if_false,cU,dC,cG,e1]
 unfold eL;rw [e];exact hn _ e2
def CO (P:Program) (f:FuncId):Bool:=match P.funcs[f]? with
 | some fn=> !(fn.name == "runtime.NumGoroutine")&&fn.body.isSome
 | none=>false
def D2 {f:FuncId} {args:Array Value} (F:CO P f=true) (w:wD):(callFunc f args).run P w = .ok (.enter f args) w:=by
 unfold CO at F
 split at F
 . rename_i fn G
   simp only [bZ,Bool.not_eq_true',Option.isSome_iff_ne_none] at F
   have M:fn.body.isNone=false:=by cases h:fn.body<;>simp_all
   have L:fn.name ≠ "runtime.NumGoroutine" := by simpa using F.1
   simp [callFunc,program,Sem.run,G,bind,Sem.bind,L,F.2,pure]
 . cases F
def ZM (R:Ending->wD->Prop):Option Value->wD->Prop
 | some v,w1=>R (.returned v) w1
 | none,_=>False
def AU {f:FuncId} {xs:List Operand} {tys:Array TypeId} {vs:lV} {R:Ending->wD->Prop} (hb:CO P f=true) (hxs:evs l xs=some vs) (C:Calls P f vs.toArray w R)
 (hR : ∀e w1,R e w1 -> ∃v,e = .returned v):B5 P n l (.call ⟨.value (.func f),xs.toArray,tys⟩) ty w (ZM R):=fun a dst pos after g next Q ha hn _=>by
 have hargs:xs.map a.eval=vs:=ha.evs hxs;have e:(execOp a.eval ⟨dst,.call ⟨.value (.func f),xs.toArray,tys⟩,ty,pos,after,g⟩).run P w = .ok (.enter f vs.toArray) w:=by
  simp only [execOp,resolve,Act.eval,Deferred.ofValue,cU,dC,cG,invoke];rw [D2 hb];simp [<-hargs]
 unfold eL;rw [e];refine dY C fun e w1 h=>?_
 obtain ⟨v,rfl⟩:=hR e w1 h;exact hn v w1 h
def Bv {f:FuncId} {x:Operand} {fi ca:lV} {xs:List Operand} {tys:Array TypeId} {vs:lV} {R:Ending->wD->Prop} (hb:CO P f=true) (hx:ev l x=some (.func (.func f) fi.toArray ca.toArray)) (hxs:evs l xs=some vs) (C:Calls P f (fi++vs++ca).toArray w R)
 (hR : ∀e w1,R e w1 -> ∃v,e = .returned v):B5 P n l (.call ⟨.value x,xs.toArray,tys⟩) ty w (ZM R):=fun a dst pos after g next Q ha hn _=>by
 have hargs:xs.map a.eval=vs:=ha.evs hxs;have e:(execOp a.eval ⟨dst,.call ⟨.value x,xs.toArray,tys⟩,ty,pos,after,g⟩).run P w = .ok (.enter f (fi++vs++ca).toArray) w:=by
  simp only [execOp,resolve,ha.ev hx,Deferred.ofValue,cU,dC,cG,invoke];rw [D2 hb];simp [<-hargs]
 unfold eL;rw [e];refine dY C fun e w1 h=>?_
 obtain ⟨v,rfl⟩:=hR e w1 h;exact hn v w1 h
end does
inductive Sch where
 | done
 | pure (i:Nat) (r:Sch)
 | fork (i:Nat) (x r:Sch)
 | none
def HW (P:Program) (ops:Array Oper) (Q:Exit->Act->wD->Prop) (S:wD->Prop):Sch->Act->wD->Prop
 | .done,a,w=>Q .normal a w
 | .pure i r,a,w=> ∃o v,ops.toList[i]? = some o/\YieldsIf P ops S o v a/\HW P ops Q S r (a.put o.dst v) w
 | .fork i x r,a,w=>wpOp P ops Q i (fun a' w'=>S w'/\HW P ops Q S x a' w') a w/\HW P ops Q S r a w
 | .none,_,_=>True
def D3 (Q:Exit->Act->wD->Prop):Prop:= ∀d v c a w,Q (.panic c) (Act.put a d v) w->Q (.panic c) a w
def Ah {P:Program} {fn:Func} {R:Ending->wD->Prop}:D3 (bodyPost P fn R):=fun d v c a w h=>by
 cases d<;>exact h
def Aa {K:Act->wD->Prop} {Q:Exit->Act->wD->Prop} (h:D3 Q):D3 (Exit.then K Q):=h
def Al {i:Nat} {Q:Exit->Act->wD->Prop} (h:D3 Q):D3 (Exit.inBlock i Q):=h
def DW (P:Program) (n:Nat) (ops:Array Oper) (Q:Exit->Act->wD->Prop) (S:wD->Prop) (s:Sch) (l:Sl) (w:wD):Prop:= ∀a,Env n l a->HW P ops Q S s a w
section draws
variable {P:Program} {n:Nat} {ops:Array Oper} {Q:Exit->Act->wD->Prop} {S:wD->Prop} {l:Sl} {w:wD}
 {d i:Nat} {ty:TypeId} {pos:String} {after:Array Edge} {r x:Sch}
end draws
def bD {P:Program} {n:Nat} {c:Operand} {x y:Code} {Q:Exit->Act->wD->Prop} {l:Sl} {w:wD} (h:CW P n (.cond c x y) Q l w):CW P n (.cond c x y) Q l w:=h
def bE {P:Program} {n d:Nat} {ops:Array Oper} {Q:Exit->Act->wD->Prop} {op:Op} {ty:TypeId} {pos:String} {after:Array Edge} {rest:List Oper} {l:Sl} {w:wD} (h:LW P n ops Q (⟨some d,op,ty,pos,after,none⟩::rest) l w):LW P n ops Q (⟨some d,op,ty,pos,after,none⟩::rest) l w:=h
def aR {P:Program} {n d:Nat} {ops:Array Oper} {Q:Exit->Act->wD->Prop} {op:Op} {ty:TypeId} {pos:String} {after:Array Edge} {g:Nat×Bool} {rest:List Oper} {l:Sl} {w:wD} (h:LW P n ops Q (⟨some d,op,ty,pos,after,some g⟩::rest) l w):LW P n ops Q (⟨some d,op,ty,pos,after,some g⟩::rest) l w:=h
attribute [irreducible] CW LW QW DW BB B5
open Go.Proofs
def tab:Tab:=[(1,.func,1),
 (2,.int .i64,1),
 (3,.int .i64,1),
 (4,.bool,1),
 (5,.int .u8,1),
 (6,.int .u8,1),
 (7,.struct [(0,2),(1,3),(2,4),(3,6)],4),
 (8,.struct [(0,2),(1,3),(2,4),(3,6)],4),
 (9,.str,1),
 (10,.str,1),
 (11,.str,1),
 (12,.int .u64,1),
 (13,.struct [(0,9),(1,12)],2),
 (14,.struct [(0,9),(1,12)],2),
 (15,.ptr 265,1),
 (16,.ptr 268,1),
 (17,.ptr 275,1),
 (18,.struct [(0,17)],1),
 (19,.struct [(0,17)],1),
 (20,.iface,1),
 (21,.int .i32,1),
 (22,.slice 66,1),
 (23,.slice 59,1),
 (24,.slice 26,1),
 (25,.struct [(0,5),(1,3),(2,9),(3,24)],4),
 (26,.struct [(0,5),(1,3),(2,9),(3,24)],4),
 (27,.struct [(0,22),(1,23),(2,26)],6),
 (28,.struct [(0,22),(1,23),(2,26)],6),
 (29,.slice 30,1),
 (30,.slice 3,1),
 (31,.struct [(0,29),(1,30),(2,30)],3),
 (32,.struct [(0,29),(1,30),(2,30)],3),
 (33,.int .u16,1),
 (34,.func,1),
 (35,.func,1),
 (36,.func,1),
 (37,.slice 63,1),
 (38,.func,1),
 (39,.func,1),
 (40,.int .i64,1),
 (42,.func,1),
 (43,.func,1),
 (44,.struct [(0,32),(3,3),(4,40)],5),
 (45,.struct [(0,32),(3,3),(4,40)],5),
 (46,.func,1),
 (47,.func,1),
 (48,.func,1),
 (49,.func,1),
 (51,.func,1),
 (53,.func,1),
 (54,.func,1),
 (55,.func,1),
 (56,.func,1),
 (57,.func,1),
 (58,.struct [(0,9),(1,22),(2,26)],6),
 (59,.struct [(0,9),(1,22),(2,26)],6),
 (60,.func,1),
 (61,.func,1),
 (62,.struct [(0,3),(1,30),(2,40),(3,9)],4),
 (63,.struct [(0,3),(1,30),(2,40),(3,9)],4),
 (64,.func,1),
 (65,.struct [(0,9),(1,5),(2,3)],3),
 (66,.struct [(0,9),(1,5),(2,3)],3),
 (67,.func,1),
 (68,.func,1),
 (69,.func,1),
 (70,.func,1),
 (71,.func,1),
 (72,.func,1),
 (73,.func,1),
 (75,.func,1),
 (76,.func,1),
 (77,.slice 164,1),
 (78,.func,1),
 (79,.func,1),
 (80,.func,1),
 (81,.ptr 86,1),
 (82,.func,1),
 (83,.slice 128,1),
 (84,.map 9 5,1),
 (85,.struct [(0,83),(1,3),(2,3),(3,84),(4,3),(5,40)],6),
 (86,.struct [(0,83),(1,3),(2,3),(3,84),(4,3),(5,40)],6),
 (87,.func,1),
 (88,.func,1),
 (89,.func,1),
 (90,.func,1),
 (92,.func,1),
 (93,.func,1),
 (94,.ptr 3,1),
 (96,.func,1),
 (97,.func,1),
 (98,.func,1),
 (99,.func,1),
 (100,.func,1),
 (101,.func,1),
 (102,.func,1),
 (103,.func,1),
 (104,.func,1),
 (105,.ptr 148,1),
 (107,.func,1),
 (108,.ptr 110,1),
 (109,.struct [(0,28),(6,105),(7,3),(8,3),(9,30)],10),
 (110,.struct [(0,28),(6,105),(7,3),(8,3),(9,30)],10),
 (111,.func,1),
 (112,.ptr 115,1),
 (113,.slice 1,1),
 (114,.struct [(0,113),(1,4)],2),
 (115,.struct [(0,113),(1,4)],2),
 (116,.func,1),
 (117,.func,1),
 (118,.func,1),
 (119,.func,1),
 (120,.func,1),
 (122,.func,1),
 (123,.func,1),
 (124,.slice 5,1),
 (125,.func,1),
 (126,.func,1),
 (127,.struct [(0,5),(1,9),(2,3)],3),
 (128,.struct [(0,5),(1,9),(2,3)],3),
 (129,.func,1),
 (130,.func,1),
 (131,.func,1),
 (132,.func,1),
 (133,.func,1),
 (134,.func,1),
 (135,.func,1),
 (136,.func,1),
 (137,.func,1),
 (138,.map 9 4,1),
 (139,.func,1),
 (140,.ptr 174,1),
 (142,.func,1),
 (143,.slice 150,1),
 (144,.struct [(0,22),(1,143),(2,3)],3),
 (145,.struct [(0,22),(1,143),(2,3)],3),
 (146,.slice 145,1),
 (147,.struct [(0,145),(3,146),(4,140)],5),
 (148,.struct [(0,145),(3,146),(4,140)],5),
 (149,.func,1),
 (150,.ptr 152,1),
 (151,.struct [(0,30)],1),
 (152,.struct [(0,30)],1),
 (153,.func,1),
 (154,.func,1),
 (155,.struct [(0,40)],1),
 (156,.struct [(0,40)],1),
 (158,.func,1),
 (159,.func,1),
 (160,.func,1),
 (161,.func,1),
 (163,.func,1),
 (164,.struct [(0,3),(1,30),(2,40),(3,9)],4),
 (165,.array 43 9,43),
 (166,.func,1),
 (167,.func,1),
 (168,.func,1),
 (169,.func,1),
 (170,.slice 55,1),
 (171,.func,1),
 (172,.func,1),
 (173,.struct [(0,30),(1,30)],2),
 (174,.struct [(0,30),(1,30)],2),
 (175,.ptr 145,1),
 (176,.func,1),
 (177,.func,1),
 (178,.func,1),
 (179,.func,1),
 (180,.func,1),
 (181,.func,1),
 (182,.func,1),
 (183,.func,1),
 (185,.func,1),
 (187,.func,1),
 (188,.func,1),
 (189,.slice 9,1),
 (190,.func,1),
 (191,.func,1),
 (192,.func,1),
 (194,.func,1),
 (196,.func,1),
 (197,.func,1),
 (199,.func,1),
 (200,.func,1),
 (201,.func,1),
 (202,.func,1),
 (203,.func,1),
 (204,.struct [(0,26),(4,3),(5,4)],6),
 (205,.struct [(0,26),(4,3),(5,4)],6),
 (206,.func,1),
 (207,.func,1),
 (208,.func,1),
 (210,.func,1),
 (211,.slice 205,1),
 (212,.func,1),
 (213,.func,1),
 (214,.func,1),
 (215,.func,1),
 (216,.iface,1),
 (217,.iface,1),
 (219,.func,1),
 (220,.func,1),
 (221,.func,1),
 (222,.ptr 30,1),
 (223,.func,1),
 (224,.func,1),
 (225,.func,1),
 (226,.func,1),
 (227,.func,1),
 (228,.int .i64,1),
 (230,.func,1),
 (231,.ptr 241,1),
 (232,.func,1),
 (233,.func,1),
 (234,.func,1),
 (235,.int .u64,1),
 (237,.func,1),
 (238,.int .u64,1),
 (239,.func,1),
 (240,.struct [(0,9),(1,9),(2,217)],3),
 (241,.struct [(0,9),(1,9),(2,217)],3),
 (242,.func,1),
 (243,.func,1),
 (244,.ptr 5,1),
 (245,.ptr 247,1),
 (246,.struct [(0,9)],1),
 (247,.struct [(0,9)],1),
 (248,.func,1),
 (249,.func,1),
 (250,.array 24 5,24),
 (251,.func,1),
 (252,.func,1),
 (254,.func,1),
 (255,.func,1),
 (256,.array 20 235,20),
 (257,.int .u32,1),
 (259,.func,1),
 (260,.func,1),
 (261,.func,1),
 (262,.array 32 5,32),
 (263,.array 64 5,64),
 (264,.struct [(0,17),(1,17),(2,17),(3,9)],4),
 (265,.struct [(0,17),(1,17),(2,17),(3,9)],4),
 (266,.array 0 16,0),
 (269,.int .u8,1),
 (270,.int .u8,1),
 (271,.func,1),
 (272,.int .i32,1),
 (273,.int .i32,1),
 (274,.struct [(0,12),(1,12),(2,257),(3,269),(4,5),(5,5),(6,270),(7,271),(8,244),(9,272),(10,273)],11),
 (275,.struct [(0,12),(1,12),(2,257),(3,269),(4,5),(5,5),(6,270),(7,271),(8,244),(9,272),(10,273)],11)]
def zt:EV:=[(1,[.nilFunc]),
 (2,[.int .i64 0]),
 (3,[.int .i64 0]),
 (4,[.bool false]),
 (5,[.int .u8 0]),
 (6,[.int .u8 0]),
 (7,[.int .i64 0,.int .i64 0,.bool false,.int .u8 0]),
 (8,[.int .i64 0,.int .i64 0,.bool false,.int .u8 0]),
 (9,[.string ⟨#[]⟩]),
 (10,[.string ⟨#[]⟩]),
 (11,[.string ⟨#[]⟩]),
 (12,[.int .u64 0]),
 (13,[.string ⟨#[]⟩,.int .u64 0]),
 (14,[.string ⟨#[]⟩,.int .u64 0]),
 (15,[.pointer none]),
 (16,[.pointer none]),
 (17,[.pointer none]),
 (18,[.pointer none]),
 (19,[.pointer none]),
 (20,[.nilIface]),
 (21,[.int .i32 0]),
 (22,[.slice none 0 0]),
 (23,[.slice none 0 0]),
 (24,[.slice none 0 0]),
 (25,[.int .u8 0,.int .i64 0,.string ⟨#[]⟩,.slice none 0 0]),
 (26,[.int .u8 0,.int .i64 0,.string ⟨#[]⟩,.slice none 0 0]),
 (27,[.slice none 0 0,.slice none 0 0,.int .u8 0,.int .i64 0,.string ⟨#[]⟩,.slice none 0 0]),
 (28,[.slice none 0 0,.slice none 0 0,.int .u8 0,.int .i64 0,.string ⟨#[]⟩,.slice none 0 0]),
 (29,[.slice none 0 0]),
 (30,[.slice none 0 0]),
 (31,[.slice none 0 0,.slice none 0 0,.slice none 0 0]),
 (32,[.slice none 0 0,.slice none 0 0,.slice none 0 0]),
 (33,[.int .u16 0]),
 (34,[.nilFunc]),
 (35,[.nilFunc]),
 (36,[.nilFunc]),
 (37,[.slice none 0 0]),
 (38,[.nilFunc]),
 (39,[.nilFunc]),
 (40,[.int .i64 0]),
 (42,[.nilFunc]),
 (43,[.nilFunc]),
 (44,[.slice none 0 0,.slice none 0 0,.slice none 0 0,.int .i64 0,.int .i64 0]),
 (45,[.slice none 0 0,.slice none 0 0,.slice none 0 0,.int .i64 0,.int .i64 0]),
 (46,[.nilFunc]),
 (47,[.nilFunc]),
 (48,[.nilFunc]),
 (49,[.nilFunc]),
 (51,[.nilFunc]),
 (53,[.nilFunc]),
 (54,[.nilFunc]),
 (55,[.nilFunc]),
 (56,[.nilFunc]),
 (57,[.nilFunc]),
 (58,[.string ⟨#[]⟩,.slice none 0 0,.int .u8 0,.int .i64 0,.string ⟨#[]⟩,.slice none 0 0]),
 (59,[.string ⟨#[]⟩,.slice none 0 0,.int .u8 0,.int .i64 0,.string ⟨#[]⟩,.slice none 0 0]),
 (60,[.nilFunc]),
 (61,[.nilFunc]),
 (62,[.int .i64 0,.slice none 0 0,.int .i64 0,.string ⟨#[]⟩]),
 (63,[.int .i64 0,.slice none 0 0,.int .i64 0,.string ⟨#[]⟩]),
 (64,[.nilFunc]),
 (65,[.string ⟨#[]⟩,.int .u8 0,.int .i64 0]),
 (66,[.string ⟨#[]⟩,.int .u8 0,.int .i64 0]),
 (67,[.nilFunc]),
 (68,[.nilFunc]),
 (69,[.nilFunc]),
 (70,[.nilFunc]),
 (71,[.nilFunc]),
 (72,[.nilFunc]),
 (73,[.nilFunc]),
 (75,[.nilFunc]),
 (76,[.nilFunc]),
 (77,[.slice none 0 0]),
 (78,[.nilFunc]),
 (79,[.nilFunc]),
 (80,[.nilFunc]),
 (81,[.pointer none]),
 (82,[.nilFunc]),
 (83,[.slice none 0 0]),
 (84,[.map none]),
 (85,[.slice none 0 0,.int .i64 0,.int .i64 0,.map none,.int .i64 0,.int .i64 0]),
 (86,[.slice none 0 0,.int .i64 0,.int .i64 0,.map none,.int .i64 0,.int .i64 0]),
 (87,[.nilFunc]),
 (88,[.nilFunc]),
 (89,[.nilFunc]),
 (90,[.nilFunc]),
 (92,[.nilFunc]),
 (93,[.nilFunc]),
 (94,[.pointer none]),
 (96,[.nilFunc]),
 (97,[.nilFunc]),
 (98,[.nilFunc]),
 (99,[.nilFunc]),
 (100,[.nilFunc]),
 (101,[.nilFunc]),
 (102,[.nilFunc]),
 (103,[.nilFunc]),
 (104,[.nilFunc]),
 (105,[.pointer none]),
 (107,[.nilFunc]),
 (108,[.pointer none]),
 (109,[.slice none 0 0,.slice none 0 0,.int .u8 0,.int .i64 0,.string ⟨#[]⟩,.slice none 0 0,.pointer none,.int .i64 0,.int .i64 0,.slice none 0 0]),
 (110,[.slice none 0 0,.slice none 0 0,.int .u8 0,.int .i64 0,.string ⟨#[]⟩,.slice none 0 0,.pointer none,.int .i64 0,.int .i64 0,.slice none 0 0]),
 (111,[.nilFunc]),
 (112,[.pointer none]),
 (113,[.slice none 0 0]),
 (114,[.slice none 0 0,.bool false]),
 (115,[.slice none 0 0,.bool false]),
 (116,[.nilFunc]),
 (117,[.nilFunc]),
 (118,[.nilFunc]),
 (119,[.nilFunc]),
 (120,[.nilFunc]),
 (122,[.nilFunc]),
 (123,[.nilFunc]),
 (124,[.slice none 0 0]),
 (125,[.nilFunc]),
 (126,[.nilFunc]),
 (127,[.int .u8 0,.string ⟨#[]⟩,.int .i64 0]),
 (128,[.int .u8 0,.string ⟨#[]⟩,.int .i64 0]),
 (129,[.nilFunc]),
 (130,[.nilFunc]),
 (131,[.nilFunc]),
 (132,[.nilFunc]),
 (133,[.nilFunc]),
 (134,[.nilFunc]),
 (135,[.nilFunc]),
 (136,[.nilFunc]),
 (137,[.nilFunc]),
 (138,[.map none]),
 (139,[.nilFunc]),
 (140,[.pointer none]),
 (142,[.nilFunc]),
 (143,[.slice none 0 0]),
 (144,[.slice none 0 0,.slice none 0 0,.int .i64 0]),
 (145,[.slice none 0 0,.slice none 0 0,.int .i64 0]),
 (146,[.slice none 0 0]),
 (147,[.slice none 0 0,.slice none 0 0,.int .i64 0,.slice none 0 0,.pointer none]),
 (148,[.slice none 0 0,.slice none 0 0,.int .i64 0,.slice none 0 0,.pointer none]),
 (149,[.nilFunc]),
 (150,[.pointer none]),
 (151,[.slice none 0 0]),
 (152,[.slice none 0 0]),
 (153,[.nilFunc]),
 (154,[.nilFunc]),
 (155,[.int .i64 0]),
 (156,[.int .i64 0]),
 (158,[.nilFunc]),
 (159,[.nilFunc]),
 (160,[.nilFunc]),
 (161,[.nilFunc]),
 (163,[.nilFunc]),
 (164,[.int .i64 0,.slice none 0 0,.int .i64 0,.string ⟨#[]⟩]),
 (165,[.string ⟨#[]⟩,.string ⟨#[]⟩,.string ⟨#[]⟩,.string ⟨#[]⟩,.string ⟨#[]⟩,.string ⟨#[]⟩,.string ⟨#[]⟩,.string ⟨#[]⟩,.string ⟨#[]⟩,.string ⟨#[]⟩,.string ⟨#[]⟩,.string ⟨#[]⟩,.string ⟨#[]⟩,.string ⟨#[]⟩,.string ⟨#[]⟩,.string ⟨#[]⟩,.string ⟨#[]⟩,.string ⟨#[]⟩,.string ⟨#[]⟩,.string ⟨#[]⟩,.string ⟨#[]⟩,.string ⟨#[]⟩,.string ⟨#[]⟩,.string ⟨#[]⟩,.string ⟨#[]⟩,.string ⟨#[]⟩,.string ⟨#[]⟩,.string ⟨#[]⟩,.string ⟨#[]⟩,.string ⟨#[]⟩,.string ⟨#[]⟩,.string ⟨#[]⟩,.string ⟨#[]⟩,.string ⟨#[]⟩,.string ⟨#[]⟩,.string ⟨#[]⟩,.string ⟨#[]⟩,.string ⟨#[]⟩,.string ⟨#[]⟩,.string ⟨#[]⟩,.string ⟨#[]⟩,.string ⟨#[]⟩,.string ⟨#[]⟩]),
 (166,[.nilFunc]),
 (167,[.nilFunc]),
 (168,[.nilFunc]),
 (169,[.nilFunc]),
 (170,[.slice none 0 0]),
 (171,[.nilFunc]),
 (172,[.nilFunc]),
 (173,[.slice none 0 0,.slice none 0 0]),
 (174,[.slice none 0 0,.slice none 0 0]),
 (175,[.pointer none]),
 (176,[.nilFunc]),
 (177,[.nilFunc]),
 (178,[.nilFunc]),
 (179,[.nilFunc]),
 (180,[.nilFunc]),
 (181,[.nilFunc]),
 (182,[.nilFunc]),
 (183,[.nilFunc]),
 (185,[.nilFunc]),
 (187,[.nilFunc]),
 (188,[.nilFunc]),
 (189,[.slice none 0 0]),
 (190,[.nilFunc]),
 (191,[.nilFunc]),
 (192,[.nilFunc]),
 (194,[.nilFunc]),
 (196,[.nilFunc]),
 (197,[.nilFunc]),
 (199,[.nilFunc]),
 (200,[.nilFunc]),
 (201,[.nilFunc]),
 (202,[.nilFunc]),
 (203,[.nilFunc]),
 (204,[.int .u8 0,.int .i64 0,.string ⟨#[]⟩,.slice none 0 0,.int .i64 0,.bool false]),
 (205,[.int .u8 0,.int .i64 0,.string ⟨#[]⟩,.slice none 0 0,.int .i64 0,.bool false]),
 (206,[.nilFunc]),
 (207,[.nilFunc]),
 (208,[.nilFunc]),
 (210,[.nilFunc]),
 (211,[.slice none 0 0]),
 (212,[.nilFunc]),
 (213,[.nilFunc]),
 (214,[.nilFunc]),
 (215,[.nilFunc]),
 (216,[.nilIface]),
 (217,[.nilIface]),
 (219,[.nilFunc]),
 (220,[.nilFunc]),
 (221,[.nilFunc]),
 (222,[.pointer none]),
 (223,[.nilFunc]),
 (224,[.nilFunc]),
 (225,[.nilFunc]),
 (226,[.nilFunc]),
 (227,[.nilFunc]),
 (228,[.int .i64 0]),
 (230,[.nilFunc]),
 (231,[.pointer none]),
 (232,[.nilFunc]),
 (233,[.nilFunc]),
 (234,[.nilFunc]),
 (235,[.int .u64 0]),
 (237,[.nilFunc]),
 (238,[.int .u64 0]),
 (239,[.nilFunc]),
 (240,[.string ⟨#[]⟩,.string ⟨#[]⟩,.nilIface]),
 (241,[.string ⟨#[]⟩,.string ⟨#[]⟩,.nilIface]),
 (242,[.nilFunc]),
 (243,[.nilFunc]),
 (244,[.pointer none]),
 (245,[.pointer none]),
 (246,[.string ⟨#[]⟩]),
 (247,[.string ⟨#[]⟩]),
 (248,[.nilFunc]),
 (249,[.nilFunc]),
 (250,[.int .u8 0,.int .u8 0,.int .u8 0,.int .u8 0,.int .u8 0,.int .u8 0,.int .u8 0,.int .u8 0,.int .u8 0,.int .u8 0,.int .u8 0,.int .u8 0,.int .u8 0,.int .u8 0,.int .u8 0,.int .u8 0,.int .u8 0,.int .u8 0,.int .u8 0,.int .u8 0,.int .u8 0,.int .u8 0,.int .u8 0,.int .u8 0]),
 (251,[.nilFunc]),
 (252,[.nilFunc]),
 (254,[.nilFunc]),
 (255,[.nilFunc]),
 (256,[.int .u64 0,.int .u64 0,.int .u64 0,.int .u64 0,.int .u64 0,.int .u64 0,.int .u64 0,.int .u64 0,.int .u64 0,.int .u64 0,.int .u64 0,.int .u64 0,.int .u64 0,.int .u64 0,.int .u64 0,.int .u64 0,.int .u64 0,.int .u64 0,.int .u64 0,.int .u64 0]),
 (257,[.int .u32 0]),
 (259,[.nilFunc]),
 (260,[.nilFunc]),
 (261,[.nilFunc]),
 (262,[.int .u8 0,.int .u8 0,.int .u8 0,.int .u8 0,.int .u8 0,.int .u8 0,.int .u8 0,.int .u8 0,.int .u8 0,.int .u8 0,.int .u8 0,.int .u8 0,.int .u8 0,.int .u8 0,.int .u8 0,.int .u8 0,.int .u8 0,.int .u8 0,.int .u8 0,.int .u8 0,.int .u8 0,.int .u8 0,.int .u8 0,.int .u8 0,.int .u8 0,.int .u8 0,.int .u8 0,.int .u8 0,.int .u8 0,.int .u8 0,.int .u8 0,.int .u8 0]),
 (263,[.int .u8 0,.int .u8 0,.int .u8 0,.int .u8 0,.int .u8 0,.int .u8 0,.int .u8 0,.int .u8 0,.int .u8 0,.int .u8 0,.int .u8 0,.int .u8 0,.int .u8 0,.int .u8 0,.int .u8 0,.int .u8 0,.int .u8 0,.int .u8 0,.int .u8 0,.int .u8 0,.int .u8 0,.int .u8 0,.int .u8 0,.int .u8 0,.int .u8 0,.int .u8 0,.int .u8 0,.int .u8 0,.int .u8 0,.int .u8 0,.int .u8 0,.int .u8 0,.int .u8 0,.int .u8 0,.int .u8 0,.int .u8 0,.int .u8 0,.int .u8 0,.int .u8 0,.int .u8 0,.int .u8 0,.int .u8 0,.int .u8 0,.int .u8 0,.int .u8 0,.int .u8 0,.int .u8 0,.int .u8 0,.int .u8 0,.int .u8 0,.int .u8 0,.int .u8 0,.int .u8 0,.int .u8 0,.int .u8 0,.int .u8 0,.int .u8 0,.int .u8 0,.int .u8 0,.int .u8 0,.int .u8 0,.int .u8 0,.int .u8 0,.int .u8 0]),
 (264,[.pointer none,.pointer none,.pointer none,.string ⟨#[]⟩]),
 (265,[.pointer none,.pointer none,.pointer none,.string ⟨#[]⟩]),
 (266,[]),
 (269,[.int .u8 0]),
 (270,[.int .u8 0]),
 (271,[.nilFunc]),
 (272,[.int .i32 0]),
 (273,[.int .i32 0]),
 (274,[.int .u64 0,.int .u64 0,.int .u32 0,.int .u8 0,.int .u8 0,.int .u8 0,.int .u8 0,.nilFunc,.pointer none,.int .i32 0,.int .i32 0]),
 (275,[.int .u64 0,.int .u64 0,.int .u32 0,.int .u8 0,.int .u8 0,.int .u8 0,.int .u8 0,.nilFunc,.pointer none,.int .i32 0,.int .i32 0])]
def Ad:TabOk prog tab:=TabOk.of_check (by kernel_rfl)
def CY:CN prog zt:=⟨by kernel_rfl,by kernel_rfl,by kernel_rfl,by kernel_rfl,by kernel_rfl,by kernel_rfl,by kernel_rfl,by kernel_rfl,by kernel_rfl,by kernel_rfl,by kernel_rfl,by kernel_rfl,by kernel_rfl,by kernel_rfl,by kernel_rfl,by kernel_rfl,by kernel_rfl,by kernel_rfl,by kernel_rfl,by kernel_rfl,by kernel_rfl,by kernel_rfl,by kernel_rfl,by kernel_rfl,by kernel_rfl,by kernel_rfl,by kernel_rfl,by kernel_rfl,by kernel_rfl,by kernel_rfl,by kernel_rfl,by kernel_rfl,by kernel_rfl,by kernel_rfl,by kernel_rfl,by kernel_rfl,by kernel_rfl,by kernel_rfl,by kernel_rfl,by kernel_rfl,by kernel_rfl,by kernel_rfl,by kernel_rfl,by kernel_rfl,by kernel_rfl,by kernel_rfl,by kernel_rfl,by kernel_rfl,by kernel_rfl,by kernel_rfl,by kernel_rfl,by kernel_rfl,by kernel_rfl,by kernel_rfl,by kernel_rfl,by kernel_rfl,by kernel_rfl,by kernel_rfl,by kernel_rfl,by kernel_rfl,by kernel_rfl,by kernel_rfl,by kernel_rfl,by kernel_rfl,by kernel_rfl,by kernel_rfl,by kernel_rfl,by kernel_rfl,by kernel_rfl,by kernel_rfl,by kernel_rfl,by kernel_rfl,by kernel_rfl,by kernel_rfl,by kernel_rfl,by kernel_rfl,by kernel_rfl,by kernel_rfl,by kernel_rfl,by kernel_rfl,by kernel_rfl,by kernel_rfl,by kernel_rfl,by kernel_rfl,by kernel_rfl,by kernel_rfl,by kernel_rfl,by kernel_rfl,by kernel_rfl,by kernel_rfl,by kernel_rfl,by kernel_rfl,by kernel_rfl,by kernel_rfl,by kernel_rfl,by kernel_rfl,by kernel_rfl,by kernel_rfl,by kernel_rfl,by kernel_rfl,by kernel_rfl,by kernel_rfl,by kernel_rfl,by kernel_rfl,by kernel_rfl,by kernel_rfl,by kernel_rfl,by kernel_rfl,by kernel_rfl,by kernel_rfl,by kernel_rfl,by kernel_rfl,by kernel_rfl,by kernel_rfl,by kernel_rfl,by kernel_rfl,by kernel_rfl,by kernel_rfl,by kernel_rfl,by kernel_rfl,by kernel_rfl,by kernel_rfl,by kernel_rfl,by kernel_rfl,by kernel_rfl,by kernel_rfl,by kernel_rfl,by kernel_rfl,by kernel_rfl,by kernel_rfl,by kernel_rfl,by kernel_rfl,by kernel_rfl,by kernel_rfl,by kernel_rfl,by kernel_rfl,by kernel_rfl,by kernel_rfl,by kernel_rfl,by kernel_rfl,by kernel_rfl,by kernel_rfl,by kernel_rfl,by kernel_rfl,by kernel_rfl,by kernel_rfl,by kernel_rfl,by kernel_rfl,by kernel_rfl,by kernel_rfl,by kernel_rfl,by kernel_rfl,by kernel_rfl,by kernel_rfl,by kernel_rfl,by kernel_rfl,by kernel_rfl,by kernel_rfl,by kernel_rfl,by kernel_rfl,by kernel_rfl,by kernel_rfl,by kernel_rfl,by kernel_rfl,by kernel_rfl,by kernel_rfl,by kernel_rfl,by kernel_rfl,by kernel_rfl,by kernel_rfl,by kernel_rfl,by kernel_rfl,by kernel_rfl,by kernel_rfl,by kernel_rfl,by kernel_rfl,by kernel_rfl,by kernel_rfl,by kernel_rfl,by kernel_rfl,by kernel_rfl,by kernel_rfl,by kernel_rfl,by kernel_rfl,by kernel_rfl,by kernel_rfl,by kernel_rfl,by kernel_rfl,by kernel_rfl,by kernel_rfl,by kernel_rfl,by kernel_rfl,by kernel_rfl,by kernel_rfl,by kernel_rfl,by kernel_rfl,by kernel_rfl,by kernel_rfl,by kernel_rfl,by kernel_rfl,by kernel_rfl,by kernel_rfl,by kernel_rfl,by kernel_rfl,by kernel_rfl,by kernel_rfl,by kernel_rfl,by kernel_rfl,by kernel_rfl,by kernel_rfl,by kernel_rfl,by kernel_rfl,by kernel_rfl,by kernel_rfl,by kernel_rfl,by kernel_rfl,by kernel_rfl,by kernel_rfl,by kernel_rfl,by kernel_rfl,by kernel_rfl,by kernel_rfl,by kernel_rfl,by kernel_rfl,by kernel_rfl,by kernel_rfl,by kernel_rfl,by kernel_rfl,by kernel_rfl,by kernel_rfl,by kernel_rfl,by kernel_rfl,by kernel_rfl,by kernel_rfl,by kernel_rfl,by kernel_rfl,by kernel_rfl,by kernel_rfl,by kernel_rfl,by kernel_rfl,by kernel_rfl,by kernel_rfl,by kernel_rfl,by kernel_rfl,by kernel_rfl,by kernel_rfl,by kernel_rfl,by kernel_rfl,by kernel_rfl,by kernel_rfl,by kernel_rfl,trivial⟩
def mixed:prog.follows .mixedOrders=true:=by kernel_rfl
def New.put {w w1 F:wD} {b:Nat} {vs us:lV} (h:New w w1 b vs) (p:Put w1 F b us):New w F b us:=
 ⟨h.pos,p.blk,⟨p.fr.os.trans (Below.os h.ext),p.fr.tape.trans (Below.tape h.ext),p.fr.output.trans (Below.output h.ext),dV h.ext.size p.fr.size,
  fun k G=>(p.fr.block k (Nat.lt_of_lt_of_le G h.ext.size) (by have:=h.pos;omega)).trans (h.ext.block G)⟩,by rw [p.size,h.size]⟩
def Blk.put {w w1:wD} {b c:Nat} {vs us:lV} (h:Blk w c us) (p:Put w w1 b vs) (F:c≠b):Blk w1 c us:=h.fr p.fr F
section seqs
variable {P:Program} {n:Nat} {ops:Array Oper} {Q:Exit->Act->wD->Prop} {rest:List Oper} {l:Sl} {w:wD} {tab:Tab}
 {d:Nat} {ty:TypeId} {pos:String} {after:Array Edge}
def Kj {x:Operand} {t:Nat} {v:Value} {vs:lV} (F:ev l x=some v) (G:v.cells=vs.toArray) (L:cV d n=true)
 (k : ∀b w1,New w w1 b vs->LW P n ops Q rest ((d,.pointer (some ⟨b,0,none⟩))::l) w1):LW P n ops Q (⟨some d,.box t x,ty,pos,after,none⟩::rest) l w:=
 AC (Hv F G) L (fun _ w1 ⟨b,h,hn⟩=>h▸k b w1 hn) (fun _ h=>h)
def Fj {zt:EV} {t:Nat} {vs:lV} (Z:CN P zt) (F:Da zt t=some vs) (G:cV d n=true)
 (k : ∀b w1,New w w1 b vs->LW P n ops Q rest ((d,.pointer (some ⟨b,0,none⟩))::l) w1):LW P n ops Q (⟨some d,.alloc t,ty,pos,after,none⟩::rest) l w:=
 AC (Bt Z F) G (fun _ w1 ⟨b,h,hn⟩=>h▸k b w1 hn) (fun _ h=>h)
def Js {x y:Operand} {t sz b o:Nat} {s:Sk} {v:Value} {vs us:lV} (T:TabOk P tab) (F:Az tab t=some (s,sz)) (G:ev l x=some (.pointer (some ⟨b,o,none⟩))) (L:ev l y=some v)
 (M:v.cells=us.toArray) (N:us.length=sz) (O:us.all Value.one=true) (U:Blk w b vs) (V:dW (o+us.length) vs.length=true)
 (k : ∀w1,Put w w1 b (Bl vs o us)->LW P n ops Q rest l w1):LW P n ops Q (⟨none,.store t x y,ty,pos,after,none⟩::rest) l w:=
 Br (GW T F G L M N O U V) (fun v w1 h=>by cases v with|none=>exact k w1 h|some _=>exact h.elim)
def Gg {w0:wD} {x y:Operand} {t sz b:Nat} {s:Sk} {v:Value} {vs us:lV} (T:TabOk P tab) (L:Az tab t=some (s,sz)) (M:ev l x=some (.pointer (some ⟨b,0,none⟩))) (N:ev l y=some v)
 (O:v.cells=us.toArray) (U:us.length=sz) (V:us.all Value.one=true) (F:New w0 w b vs) (G:us.length=vs.length)
 (k : ∀w1,New w0 w1 b us->LW P n ops Q rest l w1):LW P n ops Q (⟨none,.store t x y,ty,pos,after,none⟩::rest) l w:=
 Js T L M N O U V F.blk (by simp [G]) (fun w1 p=>k w1 (F.put (by
  have e:Bl vs 0 us=us:=by
   have key : ∀(us vs pre:lV),us.length=vs.length->Bl (pre++vs) pre.length us=pre++us:=by
    intro us
    induction us with
    | nil=>intro vs pre h;cases vs with|nil=>simp [Bl]|cons _ _=>simp at h
    | cons u r X=>
     intro vs pre h;cases vs with
     | nil=>simp at h
     | cons x vs=>
      simp only [Bl];have:(pre++x::vs).set pre.length u=(pre++[u])++vs:=by simp
      rw [this];have:=X vs (pre++[u]) (by simpa using h);simp only [cP,cF,dD] at this;rw [this];simp
   simpa using key us vs [] G
  rw [e] at p;exact p)))
end seqs
def Va (v:lV) : ∀(cells:Array Value) (off j:Nat),((v.zipIdx j).foldl (fun cs (c:Value×Nat)=>cs.setIfInBounds (off+c.2) c.1) cells).toList=Bl cells.toList (off+j) v:=by
 induction v with
 | nil=>intro cells off j;simp [Bl]
 | cons x r h=>
  intro cells off j;simp only [List.zipIdx_cons,List.foldl_cons,Bl];rw [h];simp only [Array.toList_setIfInBounds];rw [show off+(j+1)=off+j+1 from by omega]
def IR:List (Nat×Nat×lV)->lV->Option lV
 | [],cells=>some cells
 | (off,size,v)::r,cells=>match eC v.length size with
  | true=>match dW (off+size) cells.length with
   | true=>IR r (Bl cells off v)
   | false=>none
  | false=>none
def Oj {F:Nat->Option (Nat×Nat)} : ∀(ps:List (Nat×Value)) (L:List (Nat×Nat×lV)) (cells:Array Value) (G:lV),
 ps.length=L.length->(∀(i:Nat) (p:Nat×Value) (q:Nat×Nat×lV),ps[i]? = some p->L[i]? = some q->F p.1=some (q.1,q.2.1)/\p.2.cells=q.2.2.toArray)->IR L cells.toList=some G->Instr.fill F cells ps=some G.toArray
 | [],[],cells,G,_,_,h=>by simp only [IR,cE] at h;subst h;simp [Instr.fill]
 | [],_::_,_,_,M,_,_=>by simp at M
 | _::_,[],_,_,M,_,_=>by simp at M
 | (i,v)::ps,(off,size,us)::L,cells,G,M,X,h=>by
  obtain ⟨Y,N⟩:=X 0 _ _ rfl rfl;simp only at Y N;simp only [IR] at h;split at h
  . rename_i Z;split at h
    . rename_i e2;have O:=dO Z;have U:=dE e2;simp only [Array.length_toList] at U;have V:v.cells.size=us.length:=by rw [N];simp
      simp only [Instr.fill,Y];have hc : ¬(decide (v.cells.size≠size)||decide (off+v.cells.size>cells.size))=true:=by simp [V,O];omega
      rw [As (by simpa using hc)];refine Oj ps L _ G (by simpa using M) (fun j p q hj hq=>X (j+1) p q hj hq) ?_;have hz:v.cells.zipIdx.foldl (fun cs (c:Value×Nat)=>cs.setIfInBounds (off+c.2) c.1) cells=(Bl cells.toList off us).toArray:=by
       apply Array.ext';rw [<-Array.foldl_toList];have:=Va us cells off 0;simpa [N,Array.toList_zipIdx] using this
      rw [show (v.cells.zipIdx.foldl (fun cs x=>match x with|(c,j)=>cs.setIfInBounds (off+j) c) cells)=(Bl cells.toList off us).toArray from hz];simpa using h
    . cases h
  . cases h
def Po : ∀(us vs pre post:lV),us.length=vs.length->Bl (pre++vs++post) pre.length us=pre++us++post:=by
 intro us
 induction us with
 | nil=>intro vs pre post h;cases vs with|nil=>simp [Bl]|cons _ _=>simp at h
 | cons u r F=>
  intro vs pre post h;cases vs with
  | nil=>simp at h
  | cons x vs=>
   simp only [Bl];have e:(pre++x::vs++post).set pre.length u=(pre++[u])++vs++post:=by simp
   rw [e];have:=F vs (pre++[u]) post (by simpa using h);simp only [cP,cF,dD] at this;rw [this];simp
def Hw (size:Nat):Nat->List lV->List (Nat×Nat×lV)
 | _,[]=>[]
 | k,v::r=>(k*size,size,v)::Hw size (k+1) r
def Ni (size:Nat) : ∀(F:List lV) (k:Nat) (pre rest:lV),pre.length=k*size->(∀v∈F,v.length=size)->rest.length=F.length*size ->
 IR (Hw size k F) (pre++rest)=some (pre++F.flatten)
 | [],k,pre,rest,_,_,h=>by
  have:rest=[]:=by simpa using h
  subst this;simp [Hw,IR]
 | v::r,k,pre,rest,N,O,U=>by
  have G:=O v List.mem_cons_self;simp only [cF,Nat.add_mul,Nat.one_mul] at U;have L:rest=rest.take size++rest.drop size:=(List.take_append_drop _ _).symm;have M:(rest.take size).length=v.length:=by rw [eH,G];omega
  simp only [Hw,IR];have V:eC v.length size=true:=by rw [G];exact Nat.beq_refl size
  have X:dW (k*size+size) (pre++rest).length=true:=Nat.ble_eq_true_of_le (by rw [cP];omega);rw [V];simp only;rw [X];simp only;have e:Bl (pre++rest) (k*size) v=pre++v++rest.drop size:=by
   have:=Po v (rest.take size) pre (rest.drop size) M.symm;rw [dP,<-L,N] at this;exact this
  rw [e];have:=Ni size r (k+1) (pre++v) (rest.drop size) (by rw [cP,N,G,Nat.add_mul,Nat.one_mul]) (fun u Y=>O u (List.mem_cons_of_mem _ Y)) (by rw [List.length_drop];omega);rw [this];simp
def GX (l:Sl):Nat->List (Nat×Operand)->Option lV
 | _,[]=>some []
 | k,(i,x)::r=>match eC i k with
  | true=>match ev l x with
   | some v=>match GX l (k+1) r with
    | some vs=>some (v::vs)
    | none=>none
   | none=>none
  | false=>none
def Jt {n:Nat} {l:Sl} {a:Act} (G:Env n l a) : ∀(ps:List (Nat×Operand)) (k:Nat) (vs:lV),GX l k ps=some vs->ps.map (fun p=>(p.1,a.eval p.2))=(vs.zipIdx k).map (fun v=>(v.2,v.1))
 | [],k,vs,h=>by simp only [GX,cE] at h;subst h;rfl
 | (i,x)::r,k,vs,h=>by
  simp only [GX] at h;split at h
  . rename_i L;have F:=dO L;split at h
    . rename_i v M;split at h
      . rename_i us N;simp only [cE] at h;subst h F;simp [G.ev M,Jt G r _ _ N]
      . cases h
    . cases h
  . cases h
def Ok (w:wD) (len:Nat) (vs:lV) (T:TypeId):Option Value->wD->Prop
 | some v,w1=> ∃b,v = .slice (some ⟨b,0,none⟩) len len/\New w w1 b vs/\w1.heap[b]? = some (.cells vs.toArray T (0,0))
 | none,_=>False
def Nj (size:Nat) : ∀(F:List lV) (k i:Nat) (q:Nat×Nat×lV),(Hw size k F)[i]? = some q -> ∃v,F[i]? = some v/\q=((k+i)*size,size,v)
 | [],_,_,_,h=>by simp [Hw] at h
 | v::r,k,0,q,h=>by simp [Hw] at h;exact ⟨v,rfl,by simp [h]⟩
 | v::r,k,i+1,q,h=>by
  simp only [Hw,List.getElem?_cons_succ] at h;obtain ⟨u,G,L⟩:=Nj size r (k+1) i q h;exact ⟨u,by simpa using G,by rw [L];congr 2;omega⟩
def Ju (size:Nat) : ∀(h:List lV) (k:Nat),(Hw size k h).length=h.length
 | [],_=>rfl
 | _::r,k=>by simp [Hw,Ju size r]
section does
variable {P:Program} {n:Nat} {l:Sl} {w:wD} {tab:Tab} {zt:EV} {ty:TypeId}
def Rp {t e sz szE len:Nat} {sE:Sk} {zs:lV} {ps:List (Nat×Operand)} {vs:lV} (T:TabOk P tab) (Z:CN P zt) (ht:Az tab t=some (.slice e,sz)) (hE:Az tab e=some (sE,szE))
 (hz:Da zt e=some zs) (hp:GX l 0 ps=some vs) (hl:vs.length=len) (hc:vs.all (fun v=>eC v.cells.size szE)=true) (hm:dW (len*szE) 10000=true) (hn0:cV 0 (len*szE)=true) :
 B5 P n l (.buildSlice t len ps.toArray) ty w (Ok w len (vs.map (·.cells.toList)).flatten e):=by
 unfold B5;intro a dst pos after g next Q ha hn _;have hu:P.underlying t=some (.slice e):=(T _ _ _ ht).under;have hm':=dE hm;have hn0':0<len*szE:=dE hn0;obtain ⟨i0,v0,z1,z2,z3⟩:=FM Z hz;have hps:=Jt ha ps 0 vs hp;have hlen : ∀v∈vs,v.cells.size=szE:=fun v hv=>dO (List.all_eq_true.1 hc v hv)
 have hfill : ∀cells:Array Value,cells.size=len*szE->Instr.fill (fun i=>some (i*szE,szE)) cells ((vs.zipIdx 0).map (fun v=>(v.2,v.1)))=some (vs.map (·.cells.toList)).flatten.toArray:=fun cells hcs=>by
  refine Oj _ (Hw szE 0 (vs.map (·.cells.toList))) cells _ (by simp [Ju]) ?_ ?_
  . intro i p q hi hq;obtain ⟨v,hv,rfl⟩:=Nj szE _ 0 i q hq;simp only [dZ,Option.map_eq_some_iff] at hv hi;obtain ⟨x,hx,rfl⟩:=hv;obtain ⟨y,hy,rfl⟩:=hi;rw [List.getElem?_zipIdx] at hy;rw [hx] at hy;simp only [Option.map_some,cE] at hy;subst hy;simp
  . have:=Ni szE (vs.map (·.cells.toList)) 0 [] cells.toList (by simp) (by simpa using hlen) (by simp [hcs,hl]);simpa using this
 have e1:(execOp a.eval ⟨dst,.buildSlice t len ps.toArray,ty,pos,after,g⟩).run P w = .ok (.value (.slice (some ⟨w.heap.size,0,none⟩) len len)) (w.alloc (.cells (vs.map (·.cells.toList)).flatten.toArray e (0,0))):=by
  have hpa:(ps.toArray.map fun (p:Nat×Operand)=>(p.1,a.eval p.2)).toList=(vs.zipIdx 0).map (fun v=>(v.2,v.1)):=by simpa using hps
  have hb:(Instr.buildSlice t len (ps.toArray.map fun (p:Nat×Operand)=>(p.1,a.eval p.2))).run P w = .ok (.slice (some ⟨w.heap.size,0,none⟩) len len) (w.alloc (.cells (vs.map (·.cells.toList)).flatten.toArray e (0,0))):=by
   simp only [Instr.buildSlice,cU,AF hu,cG,Ck (T _ _ _ hE),hpa];rw [As (by omega)];simp only [As (show ¬len*szE=0 by omega),zeroValue,typeInfo,program,Sem.run,z1,z2,bind,Sem.bind,pure];rw [hfill _ (by simp)];simp only [newRow,newObj,bind,Sem.bind,Sem.run,pure];rfl
  simp only [execOp,cU];rw [show (ps.toArray.map fun x=>match x with|(i,x)=>(i,a.eval x))=ps.toArray.map fun (p:Nat×Operand)=>(p.1,a.eval p.2) from rfl,hb];rfl
 unfold eL;rw [e1];exact hn _ _ ⟨_,rfl,EU _ _ _,by show (w.heap.push _)[w.heap.size]? = _;simp⟩
def Bc {S:wD->Prop} {x:Operand} {a:Addr} (h:ev l x=some (.pointer (some a))):BB P n l S (.nilCheck x) ty (.pointer (some a)):=by
 unfold BB;intro a w F pos after g G _;simp [execOp,G.ev h]
def I2 (tab:Tab) (fs:List (Nat×Nat)) (l:Sl):List (Nat×Operand)->Option (List (Nat×Value)×List (Nat×Nat×lV))
 | []=>some ([],[])
 | (i,x)::r=>match fs[i]? with
  | some (off,ft)=>match Az tab ft with
   | some (_,sz)=>match ev l x with
    | some v=>match I2 tab fs l r with
     | some (ps,qs)=>some ((i,v)::ps,(off,sz,v.cells.toList)::qs)
     | none=>none
    | none=>none
   | none=>none
  | none=>none
def KJ {a:Act} {V:List (Nat×Nat)} {X:Array Field} (T:TabOk P tab) (Y:Env n l a) (Z : ∀(i o F:Nat),V[i]? = some (o,F) -> ∃g:Field,X[i]? = some g/\g.offset=o/\g.type=F /\ ∃j:TypeInfo,P.info? F=some j/\j.size≠0)
 {pl:Array (Nat×Nat)} (G : ∀(i:Nat) (g:Field) (s:Sk) (sz:Nat),X[i]? = some g->TyOk P g.type s sz->pl[i]? = some (g.offset,sz)) : ∀(xs:List (Nat×Operand)) (ps:List (Nat×Value)) (L:List (Nat×Nat×lV)),I2 tab V l xs=some (ps,L) ->
  xs.map (fun p=>(p.1,a.eval p.2))=ps/\ps.length=L.length /\ ∀(i:Nat) (p:Nat×Value) (q:Nat×Nat×lV),ps[i]? = some p->L[i]? = some q->pl[p.1]? = some (q.1,q.2.1)/\p.2.cells=q.2.2.toArray
 | [],ps,L,h=>by simp only [I2,cE,Prod.mk.injEq] at h;obtain ⟨rfl,rfl⟩:=h;simp
 | (i,x)::r,ps,L,h=>by
  simp only [I2] at h;split at h
  . rename_i off F hf;split at h
    . rename_i s sz ht;split at h
      . rename_i v hv;split at h
        . rename_i M N hr;simp only [cE,Prod.mk.injEq] at h;obtain ⟨rfl,rfl⟩:=h;obtain ⟨h1,h2,h3⟩:=KJ T Y Z G r M N hr;refine ⟨by simp [Y.ev hv,h1],by simp [h2],?_⟩;rintro (_|j) p q O U
          . simp only [dF,cE] at O U;subst O U;obtain ⟨g,g1,g2,g3,-⟩:=Z i off F hf;refine ⟨?_,by simp⟩;have:=G i g s sz g1 (by rw [g3];exact T _ _ _ ht);rw [g2] at this;exact this
          . exact h3 j p q (by simpa using O) (by simpa using U)
        . cases h
      . cases h
    . cases h
  . cases h
def Nk : ∀(L:List Field),(∀f∈L,∃i,P.info? f.type=some i) -> ∃pl:List (Nat×Nat),L.mapM (fun f=>(P.info? f.type).map fun i=>(f.offset,i.size))=some pl /\ ∀(i:Nat) (g:Field) (s:Sk) (sz:Nat),L[i]? = some g->TyOk P g.type s sz->pl[i]? = some (g.offset,sz)
 | [],_=>⟨[],by simp,by simp⟩
 | f::r,h=>by
  obtain ⟨i,M⟩:=h f List.mem_cons_self;obtain ⟨pl,O,U⟩:=Nk r (fun g F=>h g (List.mem_cons_of_mem _ F));refine ⟨(f.offset,i.size)::pl,by simp [M,O],?_⟩;rintro (_|j) g s sz F N
  . simp only [dF,cE] at F;subst F;obtain ⟨X,G,V⟩:=N.info;rw [M] at G;injection G with G
    subst G;simp [V]
  . exact U j g s sz (by simpa using F) N
def Tu {S:wD->Prop} {t sz:Nat} {F:List (Nat×Nat)} {xs:List (Nat×Operand)} {ps:List (Nat×Value)} {G:List (Nat×Nat×lV)} {zs h:lV} (T:TabOk P tab) (Z:CN P zt)
 (O:Az tab t=some (.struct F,sz)) (U:Da zt t=some zs) (V:I2 tab F l xs=some (ps,G)) (X:IR G zs=some h):BB P n l S (.build t xs.toArray) ty (.agg h.toArray):=by
 unfold BB;intro a w Y pos after g ha _;obtain ⟨M,h1,h2,N⟩:=(T _ _ _ O).under;obtain ⟨i0,v0,z1,z2,z3⟩:=FM Z U;obtain ⟨pl,p1,p2⟩:=Nk (P:=P) M.toList (fun f hf=>by
  obtain ⟨i,hi,rfl⟩:=List.mem_iff_getElem.1 hf;have L:i<F.length:=by simpa [h2] using hi
  obtain ⟨g,g1,g2,g3,j,g4,-⟩:=N i F[i].1 F[i].2 (bT L);have:M.toList[i]=g:=by
   have:=Array.getElem?_eq_some_iff.1 g1;simpa using this.2
  rw [this,g3];exact ⟨j,g4⟩)
 obtain ⟨q1,q2,q3⟩:=KJ T ha N (pl:=pl.toArray) (fun i g s sz hg hk=>by simpa using p2 i g s sz (by simpa using hg) hk) xs ps G V;have hb:P.built t (xs.toArray.map fun (p:Nat×Operand)=>(p.1,a.eval p.2)).toList=some h.toArray:=by
  unfold Program.built;simp only [z1,h1,z2,p1];rw [show (xs.toArray.map fun (p:Nat×Operand)=>(p.1,a.eval p.2)).toList=ps from by simpa using q1];exact Oj ps G v0.cells h q2 q3 (by rw [z3];simpa using X)
 have:=run_build w t _ _ hb;simp only [execOp,cU];rw [show (xs.toArray.map fun x=>match x with|(i,x)=>(i,a.eval x))=xs.toArray.map fun (p:Nat×Operand)=>(p.1,a.eval p.2) from rfl,this];rfl
end does
def Row.sub {w:wD} {b o:Nat} {vs:lV} (h:Row w ⟨b,o,none⟩ vs) (i k:Nat):Row w ⟨b,o+i,none⟩ ((vs.drop i).take k):=fun j v F=>by
 have G:vs[i+j]? = some v:=by
  rw [List.getElem?_take] at F;split at F
  . rwa [List.getElem?_drop] at F
  . cases F
 have:=h.at G;have e:(⟨b,o+i,none⟩:Addr).add j=⟨b,o+(i+j),none⟩:=by unfold eG;by_cases L:j=0<;>simp [L,Nat.add_assoc]
 rw [e];exact this
section parts
variable {P:Program} {n:Nat} {l:Sl} {S:wD->Prop} {ty:TypeId} {tab:Tab}
def DH {x:Operand} {t sz b o:Nat} {s:Sk} {vs:lV} (T:TabOk P tab) (h:Az tab t=some (s,sz)) (F:s.agg=true) (G:ev l x=some (.pointer (some ⟨b,o,none⟩)))
 (L : ∀w,S w->Blk w b vs) (M:dW (o+sz) vs.length=true):BB P n l S (.load t x) ty (.agg ((vs.drop o).take sz).toArray):=
 Iu T h F G (by have:=dE M;simp;omega) (fun w N=>by have:=(L w N).row.sub o sz;simpa using this)
def IS {x:Operand} {t sz b o i:Nat} {s:Sk} {vs:lV} (T:TabOk P tab) (h:Az tab t=some (s,sz)) (F:s.agg=true) (G:ev l x=some (.pointer (some ⟨b,o+i,none⟩)))
 (L : ∀w,S w->Row w ⟨b,o,none⟩ vs) (M:dW (i+sz) vs.length=true):BB P n l S (.load t x) ty (.agg ((vs.drop i).take sz).toArray):=
 Iu T h F G (by have:=dE M;simp;omega) (fun w N=>(L w N).sub i sz)
end parts
def Tv {P:Program} {n:Nat} {l:Sl} {S:wD->Prop} {ty:TypeId} {tab:Tab} {x:Operand} {t sz:Nat} {a:lB} (T:TabOk P tab) (h:Az tab t=some (.str,sz)) (F:ev l x=some (str a)):BB P n l S (.call ⟨.builtin .len,#[x],#[t]⟩) ty (.int .i64 a.length):=Pm T (pt:=true) h F
def Arr {α:Type} (S:nP) (sz:Nat) (E:wD->Nat->Nat->α->Prop) (w:wD) (l:List α) (a:oA):Prop:=
 l=[] \/ ∃b o,a=some ⟨b,o,none⟩/\S b /\ ∀i x,l[i]? = some x->E w b (o+i*sz) x
def Arr.mono {α:Type} {S S':nP} {sz:Nat} {E F:wD->Nat->Nat->α->Prop} {w w':wD} {l:List α} {a:oA} (h:Arr S sz E w l a) (M : ∀b,S b->S' b) (N : ∀b o x,x∈l->S b->E w b o x->F w' b o x):Arr S' sz F w' l a:=by
 rcases h with h|⟨b,o,O,G,U⟩
 . exact bW h
 . exact bX ⟨b,o,O,M b G,fun i x L=>N _ _ _ (dL L) G (U i x L)⟩
def Arr.get {α:Type} {S:nP} {sz:Nat} {E:wD->Nat->Nat->α->Prop} {w:wD} {l:List α} {a:oA} (h:Arr S sz E w l a) (F:0<l.length) :
 ∃b o,a=some ⟨b,o,none⟩/\S b /\ ∀i x,l[i]? = some x->E w b (o+i*sz) x:=by
 rcases h with h|h
 . subst h;simp at F
 . exact h
def TB (w:wD) (b:Nat) (vs:lV) (T:TypeId):Prop:=w.heap[b]? = some (.cells vs.toArray T (0,0))
def TB.blk {w:wD} {b:Nat} {vs:lV} {T:TypeId} (h:TB w b vs T):Blk w b vs:=⟨T,h⟩
def TB.ext {w w':wD} {b:Nat} {vs:lV} {T:TypeId} (h:TB w b vs T) (e:Ext w w'):TB w' b vs T:=(e.block h.blk.lt).trans h
def TB.set {w:wD} {b i:Nat} {vs:lV} {T:TypeId} (h:TB w b vs T) (v:Value):TB (w.setCell ⟨b,i,none⟩ v) b (vs.set i v) T:=by
 have F:w.heap[b]? = some (.cells vs.toArray T (0,0)):=h;unfold TB;simp [World.setCell,Array.getElem?_modify,F]
def Fq {P:Program} {T:TypeId} : ∀(us:lV) (w:wD) (b o i:Nat) (vs:lV),TB w b vs T->o+i+us.length<=vs.length->us.all Value.one=true ->
 ∃w1,(storeCells ⟨b,o,none⟩ us i).run P w = .ok () w1/\Put w w1 b (Bl vs (o+i) us)/\TB w1 b (Bl vs (o+i) us) T
 | [],w,b,o,i,vs,h,_,_=>⟨w,rfl,⟨h.blk,Fr.refl _ _,rfl⟩,h⟩
 | u::r,w,b,o,i,vs,h,L,F=>by
  simp only [cF] at L;simp only [List.all_cons,bZ] at F;have M:(⟨b,o,none⟩:Addr).add i=⟨b,o+i,none⟩:=by unfold eG;by_cases N:i=0<;>simp [N]
  have e:(storeCells ⟨b,o,none⟩ (u::r) i).run P w=(storeCells ⟨b,o,none⟩ r (i+1)).run P (w.setCell ⟨b,o+i,none⟩ u):=by
   simp only [storeCells,store,M,bind,Sem.bind];exact Nh h.blk (by omega) F.1 _
  obtain ⟨w1,O,G,U⟩:=Fq (P:=P) r _ b o (i+1) _ (h.set (i:=o+i) u) (by simp;omega) F.2;refine ⟨w1,by rw [e,O],⟨G.blk,((Fr.refl (· = b) w).setCell ⟨b,o+i,none⟩ u (bW rfl)).trans G.fr,?_⟩,U⟩;rw [G.size];simp [World.setCell]
section typed
variable {P:Program} {n:Nat} {ops:Array Oper} {Q:Exit->Act->wD->Prop} {rest:List Oper} {l:Sl} {w:wD} {tab:Tab}
 {d:Nat} {ty:TypeId} {pos:String} {after:Array Edge}
def Vb (w:wD) (vs:lV) (T:TypeId):Option Value->wD->Prop
 | some v,w1=> ∃b,v = .pointer (some ⟨b,0,none⟩)/\New w w1 b vs/\TB w1 b vs T
 | none,_=>False
def Jv (w:wD) (vs:lV) (T:TypeId):TB (w.alloc (.cells vs.toArray T (0,0))) w.heap.size vs T:=by show (w.heap.push _)[w.heap.size]? = _;simp
def Tw {x:Operand} {t:Nat} {v:Value} {vs:lV} (hx:ev l x=some v) (hv:v.cells=vs.toArray):B5 P n l (.box t x) ty w (Vb w vs t):=by
 unfold B5;intro a dst pos after g next Q ha hn _;have e:(execOp a.eval ⟨dst,.box t x,ty,pos,after,g⟩).run P w = .ok (.value (.pointer (some ⟨w.heap.size,0,none⟩))) (w.alloc (.cells vs.toArray t (0,0))):=by
  simp [execOp,ha.ev hx,Instr.box,newVar,newRow,newObj,Sem.run,hv,bind,Sem.bind,pure]
 unfold eL;rw [e];exact hn _ _ ⟨_,rfl,EU _ _ _,Jv _ _ _⟩
def Pp {zt:EV} {t:Nat} {vs:lV} (Z:CN P zt) (hz:Da zt t=some vs):B5 P n l (.alloc t) ty w (Vb w vs t):=by
 unfold B5;intro a dst pos after g next Q ha hn _;obtain ⟨i,v,h1,h2,h3⟩:=FM Z hz;have e:(execOp a.eval ⟨dst,.alloc t,ty,pos,after,g⟩).run P w = .ok (.value (.pointer (some ⟨w.heap.size,0,none⟩))) (w.alloc (.cells vs.toArray t (0,0))):=by
  simp [execOp,Instr.alloc,zeroValue,typeInfo,program,newVar,newRow,newObj,Sem.run,h1,h2,h3,bind,Sem.bind,pure]
 unfold eL;rw [e];exact hn _ _ ⟨_,rfl,EU _ _ _,Jv _ _ _⟩
def Lg {x:Operand} {t:Nat} {v:Value} {vs:lV} (F:ev l x=some v) (G:v.cells=vs.toArray) (L:cV d n=true)
 (k : ∀b w1,New w w1 b vs->TB w1 b vs t->LW P n ops Q rest ((d,.pointer (some ⟨b,0,none⟩))::l) w1):LW P n ops Q (⟨some d,.box t x,ty,pos,after,none⟩::rest) l w:=
 AC (Tw F G) L (fun _ w1 ⟨b,h,hn,ht⟩=>h▸k b w1 hn ht) (fun _ h=>h)
def Tx {zt:EV} {t:Nat} {vs:lV} (Z:CN P zt) (F:Da zt t=some vs) (G:cV d n=true)
 (k : ∀b w1,New w w1 b vs->TB w1 b vs t->LW P n ops Q rest ((d,.pointer (some ⟨b,0,none⟩))::l) w1):LW P n ops Q (⟨some d,.alloc t,ty,pos,after,none⟩::rest) l w:=
 AC (Pp Z F) G (fun _ w1 ⟨b,h,hn,ht⟩=>h▸k b w1 hn ht) (fun _ h=>h)
end typed
def Fr.of_grown {w w':wD} {row:Option Nat} (h:w.grownBy w' row):Fr (fun k=>some k=row) w w':=⟨h.os,h.tape,h.output,h.size,fun k F G=>h.block k F G⟩
abbrev Own (w:wD) (b:Nat) (e:TypeId) (sz:Nat) (v:Value) (n:Nat) (cs:lV):Prop:=w.ownsRow b e sz v n cs
def Own.nil {w:wD} {b e sz:Nat}:Own w b e sz (.slice none 0 0) 0 []:=⟨by simp,bW ⟨rfl,rfl⟩⟩
def Own.ext {w w':wD} {b e sz n:Nat} {v:Value} {cs:lV} (h:Own w b e sz v n cs) (x:Ext w w'):Own w' b e sz v n cs:=by
 refine h.kept (row:=none) ⟨Below.os x,Below.tape x,Below.output x,Below.size x,fun k F _=>x.block F⟩ ?_;cases hv:v.ownBlock<;>simp
def Own.blk {w:wD} {b e sz n:Nat} {v:Value} {cs:lV} (h:Own w b e sz v n cs) {k:Nat} (F:v.ownBlock=some k):b<=k/\k<w.heap.size:=by
 obtain ⟨-,⟨rfl,-⟩|⟨g,cap,cur,rfl,M,L,-⟩⟩:=h
 . simp [eR] at F
 . simp [eR] at F;subst F;refine ⟨M,?_⟩;rcases cO g w.heap.size with G|G
   . exact G
   . rw [dX G] at L;cases L
def Own.fr {S:nP} {w w':wD} {b e sz n:Nat} {v:Value} {cs:lV} (h:Own w b e sz v n cs) (x:Fr S w w') (L : ∀k,v.ownBlock=some k -> ¬S k):Own w' b e sz v n cs:=by
 have M : ∀k,v.ownBlock=some k->b<=k/\k<w.heap.size:=fun k N=>h.blk N
 obtain ⟨G,O|⟨g,cap,cur,rfl,U,V,X⟩⟩:=h
 . exact ⟨G,bW O⟩
 . obtain ⟨-,F⟩:=M g rfl;exact ⟨G,bX ⟨g,cap,cur,rfl,U,by rw [x.block g F (L g rfl)];exact V,X⟩⟩
def Own.row {w:wD} {b e sz n:Nat} {v:Value} {cs:lV} (h:Own w b e sz v n cs):(v = .slice none 0 0/\n=0/\cs=[]) \/ ∃g cap,v = .slice (some ⟨g,0,none⟩) n cap/\b<=g/\v.ownBlock=some g/\Row w ⟨g,0,none⟩ cs:=by
 obtain ⟨L,⟨rfl,rfl⟩|⟨g,cap,cur,rfl,M,N,-,-,-,O⟩⟩:=h
 . exact bW ⟨rfl,rfl,by simpa using L⟩
 . refine bX ⟨g,cap,rfl,M,rfl,fun i u F=>?_⟩;have e:(⟨g,0,none⟩:Addr).add i=⟨g,i,none⟩:=by unfold eG;by_cases U:i=0<;>simp [U]
   rw [e];rw [<-O] at F;have G:cur.toList[i]? = some u:=by
    rw [List.getElem?_take] at F;split at F
    . exact F
    . cases F
   simpa [World.cell?,N] using G
def aS (w:wD) (b:Nat) (e:TypeId) (sz:Nat) (v:Value) (n:Nat) (cs:lV):Option Value->wD->Prop
 | some v',w'=>Own w' b e sz v' n cs/\Fr (fun k=>v.ownBlock=some k) w w' /\ ∃g cap,v' = .slice (some ⟨g,0,none⟩) n cap/\(v.ownBlock=some g\/w.heap.size<=g)
 | none,_=>False
def DM (P:Program) (e:TypeId):Bool:=match P.info? e with
 | some i=>dW i.bytes 1000
 | none=>false
def SD (v:Value):Value.one v=v.oneCell':=by cases v<;>rfl
section app
variable {P:Program} {n:Nat} {l:Sl} {w:wD} {tab:Tab} {zt:EV} {ty:TypeId}
def Eo {x y:Operand} {t e sz1 sz b k m cap:Nat} {sE:Sk} {zs:lV} {v:Value} {cs us:lV} {p:Addr} (T:TabOk P tab) (Z:CN P zt) (ht:Az tab t=some (.slice e,sz1)) (hE:Az tab e=some (sE,sz)) (hz:Da zt e=some zs) (hzl:zs.length=sz)
 (hby:DM P e=true) (hsz:cV 0 sz=true) (hx:ev l x=some v) (hy:ev l y=some (.slice (some p) m cap)) (hown:Own w b e sz v k cs) (hr:Row w p us) (hul:us.length=m*sz) (hu:us.all Value.one=true) (hkm:k+m<=100000000000) (hm0:0<k+m) (hb:b<=w.heap.size) :
 B5 P n l (.call ⟨.builtin .append,#[x,y],#[t,t]⟩) ty w (aS w b e sz v (k+m) (cs++us)):=by
 unfold B5;intro a dst pos after g next Q ha hn _;obtain ⟨i,v0,z1,z2,z3⟩:=FM Z hz;obtain ⟨i',hi',hs'⟩:=(T _ _ _ hE).info;rw [z1] at hi';obtain rfl:=cD hi';have hbb:i.bytes<=1000:=by
  unfold DM at hby;rw [z1] at hby;exact dE hby
 have hzs:v0.cells.size=sz:=by rw [z3];simpa using hzl
 have hsz':0<sz:=dE hsz;have hbytes:(k+m)*i.bytes<=140737488355328:=by have:=Nat.mul_le_mul hkm hbb;omega
 have hnews : ∀j u,us[j]? = some u->w.cell? (p.add j)=some u:=fun j u hj=>hr j u hj
 have h1c : ∀u∈us,u.oneCell'=true:=fun u hm=>by rw [<-SD];exact List.all_eq_true.1 hu u hm
 have hu':P.underlying t=some (.slice e):=(T _ _ _ ht).under;obtain ⟨v',w',hrun,h1,h2,h3⟩:=run_append_own (P:=P) w b t ty e i v0 sz i.bytes hu' z1 z2 hs' rfl hzs hsz' v k cs hown p m cap us hul hnews h1c (by unfold maxLen;omega) hbytes hb;have hwhere : ∃g cap',v' = .slice (some ⟨g,0,none⟩) (k+m) cap'/\(v.ownBlock=some g\/w.heap.size<=g):=by
  subst hs';rcases hown.2 with ⟨rfl,rfl⟩|⟨g,cap',cur,rfl,hbg,hg,hnc,hcm,hcs,htake⟩
  . by_cases hm:m=0
    . omega
    . have hr':=run_append_nil (P:=P) w t ty e i v0 hu' z1 z2 p m cap us hul hnews (by omega) (by omega) (by have hb:=hbytes;simp only [eJ] at hb;omega);rw [hr'] at hrun;simp only [Result.ok.injEq] at hrun;exact ⟨w.heap.size,_,by rw [<-hrun.1,eJ],bX (cH _)⟩
  . by_cases hroom:k+m<=cap'
    . have hfit:k*i.size+us.length<=cur.size:=by rw [hul,hcs,<-Nat.add_mul];exact Nat.mul_le_mul_right _ hroom
      have hr':=run_append_room (P:=P) w t ty e i hu' z1 g k cap' cur hg p m cap us hul hnews h1c hroom hfit;rw [hr'] at hrun;simp only [Result.ok.injEq] at hrun;exact ⟨g,_,hrun.1.symm,bW rfl⟩
    . have holds : ∀j u,cs[j]? = some u->w.cell? ((⟨g,0,none⟩:Addr).add j)=some u:=hown.cells (g:=g) rfl;have hr':=run_append_grow (P:=P) w t ty e i v0 hu' z1 z2 ⟨g,0,none⟩ k cap' cs hown.1 holds p m cap us hul hnews (by omega) (by omega) (growslice_fits (by omega) hbytes);rw [hr'] at hrun;simp only [Result.ok.injEq] at hrun;exact ⟨w.heap.size,_,hrun.1.symm,bX (cH _)⟩
 have e1:(execOp a.eval ⟨dst,.call ⟨.builtin .append,#[x,y],#[t,t]⟩,ty,pos,after,g⟩).run P w = .ok (.value v') w':=by
  simp only [execOp,resolve,invoke,builtin,cU,dC,Result.andThen_ok,List.map_toArray,List.map_cons,List.map_nil,ha.ev hx,ha.ev hy,hrun]
 unfold eL;rw [e1];exact hn v' w' ⟨h1,⟨h2.os,h2.tape,h2.output,h2.size,fun j hj hs=>h2.block j hj (fun e=>hs e.symm)⟩,hwhere⟩
end app
def BG (es:List MapEntry) (kvs:List (lB×Value)):Prop:=es.map (fun e=>(e.key,e.val))=kvs.map (fun p=>(str p.1,p.2))
def MapIs (w:wD) (r:Nat) (kvs:List (lB×Value)):Prop:= ∃es clock,w.heap[r]? = some (.map es clock)/\BG es.toList kvs
def Jw:List (lB×Value)->lB->Option Value
 | [],_=>none
 | p::r,k=>if k=p.1 then some p.2 else Jw r k
def Lb:List (lB×Value)->lB->Value->List (lB×Value)
 | [],k,v=>[(k,v)]
 | p::r,k,v=>if k=p.1 then (p.1,v)::r else p::Lb r k v
def MapIs.lt {w:wD} {r:Nat} {F:List (lB×Value)} (h:MapIs w r F):r<w.heap.size:=by
 obtain ⟨es,c,h,-⟩:=h;rcases cO r w.heap.size with G|G
 . exact G
 . rw [dX G] at h;cases h
def MapIs.ext {w w':wD} {r:Nat} {F:List (lB×Value)} (h:MapIs w r F) (x:Ext w w'):MapIs w' r F:=by
 have G:=h.lt;obtain ⟨es,c,h,e⟩:=h;exact ⟨es,c,by rw [x.block G];exact h,e⟩
def MapIs.fr {S:nP} {w w':wD} {r:Nat} {F:List (lB×Value)} (h:MapIs w r F) (x:Fr S w w') (G : ¬S r):MapIs w' r F:=by
 have L:=h.lt;obtain ⟨es,c,h,e⟩:=h;exact ⟨es,c,by rw [x.block r L G];exact h,e⟩
def SE (b:ByteArray) (x:lB):(b==(⟨x.toArray⟩:ByteArray))=(b.data.toList==x):=by
 show (b.data==x.toArray)=_;rw [Bool.eq_iff_iff];simp;constructor
 . intro h;rw [h]
 . intro h;rw [<-h]
def KK : ∀(es:List MapEntry) (F:List (lB×Value)) (k:lB) (i:Nat),BG es F ->
 ∃o,Instr.findNow .string (str k) es i=some o/\(o.map (·.2)=Jw F k) /\ ∀j v,o=some (j,v)->i<=j /\ ∃e,es[j-i]? = some e/\e.key=str k /\ ∀L,BG (es.set (j-i) { e with key:=str k,val:=L }) (Lb F k L)
 | [],[],k,i,_=>⟨none,rfl,rfl,fun _ _ h=>by cases h⟩
 | [],_::_,_,_,h=>by simp [BG] at h
 | _::_,[],_,_,h=>by simp [BG] at h
 | e::es,(N,L)::F,k,i,h=>by
  simp only [BG,List.map_cons,dU,Prod.mk.injEq] at h;obtain ⟨⟨M,O⟩,U⟩:=h;have V:Instr.sameNow .string (str k) e.key=some (decide (k=N)):=by
   rw [M];simp only [Instr.sameNow];rw [SE];simp [Jr]
  by_cases G:k=N
  . subst G;refine ⟨some (i,e.val),by simp [Instr.findNow,V],by simp [Jw,O],fun j v h=>?_⟩;simp only [cE,Prod.mk.injEq] at h;obtain ⟨rfl,-⟩:=h;refine ⟨cH _,e,by simp,M,fun L=>?_⟩;simp [BG,Lb,U]
  . obtain ⟨o,Y,Z,h3⟩:=KK es F k (i+1) U;refine ⟨o,by simp [Instr.findNow,V,G,Y],by simp [Jw,G,Z],fun j v h=>?_⟩;obtain ⟨g1,e',g2,g3,g4⟩:=h3 j v h;have X:j-i=(j-(i+1))+1:=by omega
    refine ⟨by omega,e',by rw [X];simpa using g2,g3,fun L=>?_⟩;rw [X];have:=g4 L;simp only [BG] at this ⊢;simp [Lb,G,M,O,this]
section maps
variable {P:Program} {n:Nat} {l:Sl} {w:wD} {tab:Tab} {zt:EV} {ty:TypeId}
def run_findKey {G:Nat} (M:P.underlying G=some .string) {es:List MapEntry} {F:List (lB×Value)} {k:lB} (h:BG es F) (w:wD) :
 ∃o,(Instr.findKey G (str k) es).run P w = .ok o w/\(o.map (·.2)=Jw F k) /\ ∀j v,o=some (j,v) -> ∃e,es[j]? = some e/\e.key=str k /\ ∀L,BG (es.set j { e with key:=str k,val:=L }) (Lb F k L):=by
 obtain ⟨o,N,O,U⟩:=KK es F k 0 h;refine ⟨o,by simp [Instr.findKey,AF M,cG,N],O,fun j v V=>?_⟩;obtain ⟨-,e,X,Y,Z⟩:=U j v V;exact ⟨e,by simpa using X,Y,by simpa using Z⟩
def run_checkKey {h:Nat} (F:P.underlying h=some .string) (b:Bool) (k:lB) (w:wD):(Instr.checkKey b 10000 h (str k)).run P w = .ok () w:=by
 rw [show (10000:Nat)=9999+1 from rfl,Instr.checkKey];simp [AF F,cG]
def Lh (o:Option Value) (z:Value) (c:Bool):Value:=if c then .tuple #[o.getD z,.bool o.isSome] else o.getD z
def Ls {S:wD->Prop} {x y:Operand} {t G e L M r:Nat} {c:Bool} {k:lB} {z:Value} {h:List (lB×Value)} (T:TabOk P tab) (Y:Az tab t=some (.map G e,L)) (N:Az tab G=some (.str,M)) (O:((P.info? e).bind (·.zero))=some z)
 (Z:ev l x=some (.map (some r))) (hy:ev l y=some (str k)) (hm : ∀w,S w->MapIs w r h):BB P n l S (.lookup t x y c) ty (Lh (Jw h k) z c):=by
 unfold BB;intro a w aa pos after g V hS;have hu:P.underlying t=some (.map G e):=(T _ _ _ Y).under;have X:P.underlying G=some .string:=(T _ _ _ N).under;obtain ⟨es,F,hh,he⟩:=hm w hS;obtain ⟨i0,z1,z2⟩ : ∃i,P.info? e=some i/\i.zero=some z:=by
  cases hi:P.info? e with
  | none=>rw [hi] at O;cases O
  | some i=>exact ⟨i,rfl,by simpa [hi] using O⟩
 obtain ⟨o,h1,h2,-⟩:=run_findKey X (k:=k) he w;have U:(zeroValue e).run P w = .ok z w:=by simp [zeroValue,typeInfo,program,Sem.run,z1,z2,bind,Sem.bind,pure]
 have e1:(Instr.lookup t (.map (some r)) (str k) c).run P w = .ok (Lh (Jw h k) z c) w:=by
  have hg:(getObj r).run P w = .ok (.map es F) w:=by simp [getObj,Sem.run,hh]
  simp only [Instr.lookup,cU,AF hu,cG,hg,dC,run_checkKey X,h1];rw [<-h2];cases o with
  | none=>simp [U,Lh]
  | some q=>simp [Lh]
 simp only [execOp,V.ev Z,V.ev hy,cU,e1,cG,dC]
def Y1 (w:wD):Option Value->wD->Prop
 | some v,w1=> ∃r,v = .map (some r)/\r=w.heap.size/\MapIs w1 r []/\Ext w w1/\w1.heap.size=r+1
 | none,_=>False
def Ol {t:Nat}:B5 P n l (.makeMap t none) ty w (Y1 w):=by
 unfold B5;intro a dst pos after g next Q ha hn _;have e1:(execOp a.eval ⟨dst,.makeMap t none,ty,pos,after,g⟩).run P w = .ok (.value (.map (some w.heap.size))) (w.alloc (.map #[] 0)):=by
  simp [execOp,Instr.makeMap,newObj,Sem.run,bind,Sem.bind,pure]
 unfold eL;rw [e1];exact hn _ _ ⟨_,rfl,rfl,⟨#[],0,by show (w.heap.push _)[w.heap.size]? = _;simp,by simp [BG]⟩,(Ext.refl w).alloc _,by show (w.heap.push _).size=_;simp⟩
def Y2 (w:wD) (r:Nat) (kvs:List (lB×Value)):Option Value->wD->Prop
 | none,w1=>MapIs w1 r kvs/\Fr (· = r) w w1/\w1.heap.size=w.heap.size
 | some _,_=>False
def Lu (w:wD) (r:Nat) (o F:Obj) (h:w.heap[r]? = some o):({ w with heap:=w.heap.setIfInBounds r F }:wD).heap[r]? = some F/\Fr (· = r) w { w with heap:=w.heap.setIfInBounds r F }:=by
 have G:r<w.heap.size:=(Array.getElem?_eq_some_iff.1 h).1;refine ⟨by simp [G],rfl,rfl,rfl,by simp,fun k M L=>?_⟩;exact Array.getElem?_setIfInBounds_ne (fun e=>L e.symm)
def M0 {t O e X Y r:Nat} {k:lB} {v:Value} {G:List (lB×Value)} (T:TabOk P tab) (ht:Az tab t=some (.map O e,X)) (Z:Az tab O=some (.str,Y)) (hm:MapIs w r G) :
 ∃w1,(Instr.mapUpdate t (.map (some r)) (str k) v).run P w = .ok () w1/\MapIs w1 r (Lb G k v)/\Fr (· = r) w w1/\w1.heap.size=w.heap.size:=by
 have hu:P.underlying t=some (.map O e):=(T _ _ _ ht).under;have hk:P.underlying O=some .string:=(T _ _ _ Z).under;obtain ⟨es,F,U,he⟩:=hm;obtain ⟨o,h1,h2,h3⟩:=run_findKey hk (k:=k) he w;have hg:(getObj r).run P w = .ok (.map es F) w:=by simp [getObj,Sem.run,U]
 have L : ∀ob,(setObj r ob).run P w = .ok () { w with heap:=w.heap.setIfInBounds r ob }:=fun ob=>by simp [setObj,Sem.run,U]
 cases o with
 | none=>
  have aa:Jw G k=none:=by simpa using h2.symm
  obtain ⟨p1,p2⟩:=Lu w r _ (.map (es.push { key:=str k,val:=v,born:=F }) (F+1)) U;refine ⟨_,?_,⟨_,_,p1,?_⟩,p2,by simp⟩
  . simp only [Instr.mapUpdate,cU,AF hu,cG,hg,run_checkKey hk,h1,L]
  . have key : ∀(es:List MapEntry) (G:List (lB×Value)),BG es G->Jw G k=none->BG (es++[{ key:=str k,val:=v,born:=F }]) (Lb G k v):=by
     intro es G
     induction G generalizing es with
     | nil=>intro h _;cases es with|nil=>simp [BG,Lb]|cons _ _=>simp [BG] at h
     | cons p r ih=>
      intro h V;cases es with
      | nil=>simp [BG] at h
      | cons e es=>
       simp only [Jw] at V;split at V
       . cases V
       . rename_i ab;simp only [BG,List.map_cons,dU] at h;have:=ih es h.2 V;simp only [BG] at this ⊢;simp [Lb,ab,h.1,this]
    simpa using key es.toList G he aa
 | some q=>
  obtain ⟨j,u⟩:=q;obtain ⟨en,g1,g2,g3⟩:=h3 j u rfl;have M:(Instr.keyThatStays (((es[j]?).map (·.key)).getD (str k)) (str k)).run P w = .ok (str k) w:=by
   have:es[j]? = some en:=by simpa using g1
   rw [this];have hb:((⟨k.toArray⟩:ByteArray)==⟨k.toArray⟩)=true:=by rw [SE];simp
   simp [Instr.keyThatStays,g2,Instr.sameBits,hb]
  obtain ⟨p1,p2⟩:=Lu w r _ (.map (es.modify j fun e=>{ e with key:=str k,val:=v }) F) U;refine ⟨_,?_,⟨_,_,p1,?_⟩,p2,by simp⟩
  . simp only [Instr.mapUpdate,cU,AF hu,cG,hg,run_checkKey hk,h1,M,L]
  . have:=g3 v;have e:(es.modify j fun e=>{ e with key:=str k,val:=v }).toList=es.toList.set j { en with key:=str k,val:=v }:=by
     apply List.ext_getElem?;intro i;have gj:es[j]? = some en:=by simpa using g1
     rw [Array.getElem?_toList,Array.getElem?_modify,List.getElem?_set];by_cases N:j=i
     . subst N;have ac:j<es.size:=(Array.getElem?_eq_some_iff.1 gj).1;rw [AG rfl,AG rfl,gj];simp [ac]
     . simp [N]
    rw [e];exact this
end maps
section strs
variable {P:Program} {n:Nat} {l:Sl} {S:wD->Prop} {tab:Tab} {ty:TypeId} {x y z:Operand} {t t' sz:Nat} {a:lB}
def Li (a:lB):(⟨a.toArray⟩:ByteArray).size=a.length:=by simp [ByteArray.size]
def Lv (a:lB) (i j:Nat):(⟨a.toArray⟩:ByteArray).extract i j=⟨((a.take j).drop i).toArray⟩:=by
 apply ByteArray.ext;simp [ByteArray.data_extract,List.drop_take]
def FN {k:IntKind} {i:Int} {m:Nat} {h:BoundsCode} (F:0<=i) (G:i<=m) (w:wD):(Instr.sliceBound (.int k i) m h).run P w = .ok i.toNat w:=by
 simp [Instr.sliceBound,asIntOf,F,G]
def Ty {k:IntKind} {i:Int} (T:TabOk P tab) (F:Az tab t=some (.str,sz)) (G:ev l x=some (str a)) (L:ev l y=some (.int k i)) (M:0<=i) (N:i<=a.length):BB P n l S (.slice t x (some y) none none) ty (str (a.drop i.toNat)):=by
 unfold BB;intro b w O pos after g h _;have U:P.underlying t=some .string:=(T _ _ _ F).under;have e:(Instr.sliceAt t (str a) (some (.int k i)) none none).run P w = .ok (str (a.drop i.toNat)) w:=by
  have V:=Lv a i.toNat a.length;simp only [Instr.sliceAt,cU,AF U,cG,Instr.slice,Option.isSome_none,dK,if_false,Instr.sliceBounds,dC,Li,FN M N];simp [V]
 simp [execOp,h.ev G,h.ev L,e]
def Tz {k F:IntKind} {i j:Int} (T:TabOk P tab) (G:Az tab t=some (.str,sz)) (L:ev l x=some (str a)) (M:ev l y=some (.int k i)) (N:ev l z=some (.int F j)) (O:0<=i) (Z:i<=j) (U:j<=a.length):BB P n l S (.slice t x (some y) (some z) none) ty (str ((a.take j.toNat).drop i.toNat)):=by
 unfold BB;intro b w V pos after g h _;have X:P.underlying t=some .string:=(T _ _ _ G).under;have e:(Instr.sliceAt t (str a) (some (.int k i)) (some (.int F j)) none).run P w = .ok (str ((a.take j.toNat).drop i.toNat)) w:=by
  have Y:=Lv a i.toNat j.toNat;simp only [Instr.sliceAt,cU,AF X,cG,Instr.slice,Option.isSome_none,dK,if_false,Instr.sliceBounds,dC,Li,FN (show 0<=j by omega) U];rw [FN O (by omega)];simp [Y]
 simp [execOp,h.ev L,h.ev M,h.ev N,e]
end strs
def Xg (i:Int) (h:0<=i) (F:i<=255):IntKind.u8.wrap i=i:=by rw [IntKind.wrap];simp [IntKind.signed,IntKind.bits];omega
def Ext.ext {a b c:wD} (h:Ext a b) (x:Ext b c):Ext a c:=h.trans x
def Fr.ext {S:nP} {a b c:wD} (h:Fr S a b) (x:Ext b c):Fr S a c:=h.trans (.of_ext x)
def Ext.fr {S:nP} {a b c:wD} (h:Ext a b) (x:Fr S b c) (G : ∀k,S k->a.heap.size<=k):Ext a c:=
 ⟨x.os.trans (Below.os h),x.tape.trans (Below.tape h),x.output.trans (Below.output h),dV h.size x.size,
  fun k F=>(x.block k (Nat.lt_of_lt_of_le F h.size) (fun L=>by have:=G k L;omega)).trans (h.block F)⟩
def Fr.fr {S T:nP} {a b c:wD} (h:Fr T a b) (x:Fr S b c) (L : ∀k,S k->T k\/a.heap.size<=k):Fr T a c:=
 ⟨x.os.trans h.os,x.tape.trans h.tape,x.output.trans h.output,dV h.size x.size,
  fun k F G=>(x.block k (Nat.lt_of_lt_of_le F h.size) (fun M=>by rcases L k M with h|h;exact G h;omega)).trans (h.block k F G)⟩
def TB.fr {S:nP} {w w':wD} {b:Nat} {vs:lV} {T:TypeId} (h:TB w b vs T) (x:Fr S w w') (F : ¬S b):TB w' b vs T:=(x.block b h.blk.lt F).trans h
def Fr.weaken {S T:nP} {w w':wD} (h:Fr S w w') (k : ∀b,S b->T b):Fr T w w':=⟨h.os,h.tape,h.output,h.size,fun b F G=>h.block b F (fun L=>G (k b L))⟩
section code
variable {P:Program} {n:Nat} {Q:Exit->Act->wD->Prop} {l:Sl} {w:wD} {c:Operand} {x y:Code}
def BU {p:Prop} [Decidable p] [Decidable (¬p)] (F:ev l c=some (.bool (decide (¬p)))) (G : ¬p->CW P n x Q l w) (L:p->CW P n y Q l w):CW P n (.cond c x y) Q l w:=
 Ay F G (fun h=>L (Decidable.not_not.1 h))
def YO {q:Bool} (F:ev l c=some (.bool (!q))) (G:q=false) (h:CW P n x Q l w):CW P n (.cond c x y) Q l w:=EF F (by simp [G]) h
def YP {q:Bool} (F:ev l c=some (.bool (!q))) (G:q=true) (h:CW P n y Q l w):CW P n (.cond c x y) Q l w:=FK F (by simp [G]) h
def Hx {q:Bool} (h:ev l c=some (.bool (!q))) (F:q=false->CW P n x Q l w) (G:q=true->CW P n y Q l w):CW P n (.cond c x y) Q l w:=
 Ge h (fun e=>F (by simpa using e)) (fun e=>G (by simpa using e))
variable {ops:Array Oper} {rest:List Oper} {tab:Tab} {d:Nat} {ty:TypeId} {pos:String} {after:Array Edge}
def C6 {o:Oper} {g:Nat×Bool} {dj:Nat} {p:Prop} [Decidable p] (_:o.guard=some g) (_:BM ops g.1=some dj) (_:look l dj=some (.bool (decide p))) (F:p->LW P n ops Q (o::rest) l w) (G : ¬p->LW P n ops Q (o::rest) l w):LW P n ops Q (o::rest) l w:=by
 by_cases h:p
 . exact F h
 . exact G h
def SF {o:Oper} {g:Nat×Bool} {dj:Nat} {b:Bool} (_:o.guard=some g) (_:BM ops g.1=some dj) (_:look l dj=some (.bool b)) (F:b=true->LW P n ops Q (o::rest) l w) (G:b=false->LW P n ops Q (o::rest) l w):LW P n ops Q (o::rest) l w:=by
 cases h:b
 . exact G h
 . exact F h
def ZN {a:Operand} {t sz b o:Nat} {s:Sk} {vs:lV} {v:Value} (T:TabOk P tab) (h:Az tab t=some (s,sz)) (F:s.agg=false) (G:ev l a=some (.pointer (some ⟨b,o,none⟩)))
 (L:Blk w b vs) (M:vs[o]? = some v) (N:cV d n=true) (k:LW P n ops Q rest ((d,v)::l) w):LW P n ops Q (⟨some d,.load t a,ty,pos,after,none⟩::rest) l w:=
 CD (An T h F G (fun U O=>by subst O;exact L.cell M)) N k
def DI {a:Operand} {t sz b o i:Nat} {s:Sk} {vs:lV} {v:Value} (T:TabOk P tab) (h:Az tab t=some (s,sz)) (F:s.agg=false) (G:ev l a=some (.pointer (some ⟨b,o+i,none⟩)))
 (L:Row w ⟨b,o,none⟩ vs) (M:vs[i]? = some v) (N:cV d n=true) (k:LW P n ops Q rest ((d,v)::l) w):LW P n ops Q (⟨some d,.load t a,ty,pos,after,none⟩::rest) l w:=
 CD (An T h F G (fun U O=>by subst O;exact L.at M)) N k
def DQ {a:Operand} {t sz b o:Nat} {s:Sk} {vs:lV} {v:Value} (T:TabOk P tab) (h:Az tab t=some (s,sz)) (F:s.agg=false) (G:ev l a=some (.pointer (some ⟨b,o,none⟩)))
 (L:Row w ⟨b,o,none⟩ vs) (M:vs[0]? = some v) (N:cV d n=true) (k:LW P n ops Q rest ((d,v)::l) w):LW P n ops Q (⟨some d,.load t a,ty,pos,after,none⟩::rest) l w:=
 CD (An T h F G (fun U O=>by subst O;exact L.at0 M)) N k
def Rq {a:Operand} {t sz b o:Nat} {s:Sk} {vs:lV} (T:TabOk P tab) (h:Az tab t=some (s,sz)) (F:s.agg=true) (G:ev l a=some (.pointer (some ⟨b,o,none⟩)))
 (L:Blk w b vs) (M:dW (o+sz) vs.length=true) (N:cV d n=true) (k:LW P n ops Q rest ((d,.agg ((vs.drop o).take sz).toArray)::l) w):LW P n ops Q (⟨some d,.load t a,ty,pos,after,none⟩::rest) l w:=
 CD (DH T h F G (fun U O=>by subst O;exact L) M) N k
def Rr {a:Operand} {t sz b o i:Nat} {s:Sk} {vs:lV} (T:TabOk P tab) (h:Az tab t=some (s,sz)) (F:s.agg=true) (G:ev l a=some (.pointer (some ⟨b,o+i,none⟩)))
 (L:Row w ⟨b,o,none⟩ vs) (M:dW (i+sz) vs.length=true) (N:cV d n=true) (k:LW P n ops Q rest ((d,.agg ((vs.drop i).take sz).toArray)::l) w):LW P n ops Q (⟨some d,.load t a,ty,pos,after,none⟩::rest) l w:=
 CD (IS T h F G (fun U O=>by subst O;exact L) M) N k
def YQ {a:Operand} {t sz b o:Nat} {s:Sk} {vs:lV} (T:TabOk P tab) (h:Az tab t=some (s,sz)) (F:s.agg=true) (G:ev l a=some (.pointer (some ⟨b,o,none⟩)))
 (L:Row w ⟨b,o,none⟩ vs) (M:vs.length=sz) (N:cV d n=true) (k:LW P n ops Q rest ((d,.agg vs.toArray)::l) w):LW P n ops Q (⟨some d,.load t a,ty,pos,after,none⟩::rest) l w:=
 CD (Cl T h F G (fun U O=>by subst O;exact L) M) N k
def Om {fn:Func} {R:Ending->wD->Prop} {t u s:Nat} {v x z:Value} (h:fn.results = #[.tmp t,.tmp u,.tmp s]) (G:look l t=some v) (L:look l u=some x) (M:look l s=some z) (N:R (.returned (.tuple #[v,x,z])) w):QW n (bodyPost P fn R) .ret l w:=by
 unfold QW;exact fun a F=>⟨F.defers,.tuple #[a.tmps.getD t undef,a.tmps.getD u undef,a.tmps.getD s undef],by simp [results,h],by rw [F.has t v G,F.has u x L,F.has s z M];exact N⟩
end code
def Jy (ops:Array Oper) (j i:Nat):Bool:=match ops[j]? with
 | none=>false
 | some o=>o.after.any fun e=>dT .any e&&eC e.on i
def DC (ops:Array Oper) (listed:Array Bool):Prop:= ∀k o,ops[k]? = some o->listed.getD k false=true -> ∀e∈o.after,dT .any e=true->listed.getD e.on false=true
def EW {ops:Array Oper} {j i:Nat} (h:Jy ops j i=true) : ∃o e,ops[j]? = some o/\e∈o.after/\dT .any e=true/\e.on=i:=by
 unfold Jy at h;split at h
 . cases h
 . rename_i o G;obtain ⟨e,L,F⟩:=Array.any_eq_true'.1 h;simp only [bZ] at F;exact ⟨o,e,G,L,F.1,dO F.2⟩
def EX (ops:Array Oper) (K i:Nat):Prop:= ∀(listed:Array Bool) (j:Nat) (o:Oper),DC ops listed->K<=j->ops[j]? = some o->(∀e∈o.after,dT .any e=true->listed.getD e.on false=true)->listed.getD i false=true
def Kk (ops:Array Oper) (K:Nat):Bool:=((List.range K).all fun i=>(List.range' (i+1) (K-i)).any fun j=>Jy ops j i)&&((List.range' (K+1) (ops.size-(K+1))).all fun j=>(List.range' K (j-K)).any fun i=>Jy ops j i)
def Fe {ops:Array Oper} {K:Nat} (h:Kk ops K=true) (hK:K<ops.size) : ∀i,i<K->EX ops K i:=by
 simp only [Kk,bZ,List.all_eq_true,List.mem_range,List.any_eq_true,List.mem_range'_1] at h;obtain ⟨h1,h2⟩:=h;intro i Z G j o X hj U F;have aa : ∀m j o,j<=K+m->K<=j->ops[j]? = some o->(∀e∈o.after,dT .any e=true->G.getD e.on false=true) -> ∀Y,ops[K]? = some Y -> ∀e∈Y.after,dT .any e=true->G.getD e.on false=true:=by
  intro m
  induction m with
  | zero=>
   intro j o hm hj U F Y L;have:j=K:=by omega
   subst this;rw [U] at L;obtain rfl:=cD L;exact F
  | succ m ih=>
   intro j o hm hj U F Y L;by_cases V:j=K
   . subst V;rw [U] at L;obtain rfl:=cD L;exact F
   . have ad:j<ops.size:=(Array.getElem?_eq_some_iff.1 U).1;obtain ⟨i',ab,hw⟩:=h2 j (by omega);obtain ⟨oj,e,M,he,hb,N⟩:=EW hw;rw [U] at M;obtain rfl:=cD M;have hl:=F e he hb;rw [N] at hl;have O:i'<ops.size:=by omega
     exact ih i' ops[i'] (by omega) ab.1 (Array.getElem?_eq_getElem O) (X i' _ (Array.getElem?_eq_getElem O) hl) Y L
 have ac:=aa (j-K) j o (by omega) hj U F ops[K] (Array.getElem?_eq_getElem hK);have key : ∀d i,K-i<=d->i<K->G.getD i false=true:=by
  intro d
  induction d with
  | zero=>intro i h Z;omega
  | succ d ih=>
   intro i hd Z;obtain ⟨j',ae,hw⟩:=h1 i Z;obtain ⟨oj,e,M,he,hb,N⟩:=EW hw;by_cases V:j'=K
   . subst V;rw [Array.getElem?_eq_getElem hK] at M;obtain rfl:=cD M;have:=ac e he hb;rwa [N] at this
   . have hl:=ih j' (by omega) (by omega);have:=X j' oj M hl e he hb;rwa [N] at this
 exact key (K-i) i (cH _) Z
section
variable {P:Program} {ops:Array Oper} {Q:Exit->Act->wD->Prop} {S:wD->Prop} {K:Nat}
def Hy (P:Program) (ops:Array Oper) (Q:Exit->Act->wD->Prop) (S:wD->Prop) (K:Nat):Nat->Array Bool->Act->wD->Prop
 | 0,listed,a,w=>cZ .any ops listed=[]/\Q .normal a w
 | fuel+1,listed,a,w=>
  (cZ .any ops listed=[]->Q .normal a w) /\
  ∀i∈cZ .any ops listed,wpOp P ops Q i (fun a' w'=>(i<K->S w')/\Hy P ops Q S K fuel (listed.setIfInBounds i true) a' w') a w
def Lw : ∀(F:Nat) (G:Array Bool) (a:Act) (w:wD),Hy P ops Q S K F G a w->wpAny P .any ops Q F G a w
 | 0,_,_,_,h=>h
 | F+1,_,_,_,h=>⟨h.1,fun i L=>wpOp_mono (fun M w' N=>Lw F _ M w' N.2) (h.2 i L)⟩
def DC.set {F:Array Bool} (h:DC ops F) {j:Nat} (hj:j∈cZ .any ops F):DC ops (F.setIfInBounds j true):=by
 obtain ⟨V,oj,N,G⟩:=mem_ready.1 hj;intro k o O X e Y Z;have key:F.getD e.on false=true:=by
  by_cases L:j=k
  . subst L;rw [N] at O;obtain rfl:=cD O;exact G e Y Z
  . refine h k o O ?_ e Y Z;rw [getD_set_ne false L] at X;exact X
 by_cases M:j=e.on
 . subst M;rcases cO e.on F.size with U|U
   . simp [U]
   . simp [dX U] at key
 . rw [getD_set_ne false M];exact key
def On {i:Nat} {oi:Oper} {v:Value} (hi:ops[i]? = some oi) (hK:i<K) (ae:EX ops K i) (V : ∀(j:Nat) (o:Oper) cs b,ops[j]? = some o->o.op≠.select cs b)
 (hQ : ∀c a w,Q (.panic c) (a.put oi.dst v) w->Q (.panic c) a w) :
 ∀(G:Nat) (F:Array Bool) (a:Act) (w:wD),DC ops F ->
  (∀j X,ops[j]? = some X->j≠i->F.getD j true=false->(∀e∈X.after,dT .any e=true->e.on≠i)->oi.apart ops X=true) ->
  i∈cZ .any ops F->YieldsIf P ops S oi v a->S w ->
  Hy P ops Q S K G (F.setIfInBounds i true) (a.put oi.dst v) w->Hy P ops Q S K (G+1) F a w:=by
 intro G
 induction G with
 | zero=>
  intro F a w _ _ hr hy hS H;refine ⟨fun h=>(by rw [h] at hr;cases hr),fun j hj=>?_⟩;by_cases L:j=i
  . subst L;exact hy.wpOp hi hS ⟨fun _=>hS,H⟩
  . have:=ready_mono hj L;rw [H.1] at this;cases this
 | succ G ih=>
  intro F a w aa M hr hy hS H;refine ⟨fun h=>(by rw [h] at hr;cases hr),fun j hj=>?_⟩;by_cases L:j=i
  . subst L;exact hy.wpOp hi hS ⟨fun _=>hS,H⟩
  . have h1:=H.2 j (ready_mono hj L);obtain ⟨Y,X,O,Z⟩:=mem_ready.1 hj;have N : ¬F.getD i false=true:=fun hc=>by
     have h0:=(mem_ready.1 hr).1;rcases cO i F.size with h'|h'
     . simp [h'] at h0 hc;rw [h0] at hc;cases hc
     . simp [dX h'] at hc
    have ab:j<K:=by
     rcases cO j K with h|h
     . exact h
     . exact absurd (ae F j X aa h O Z) N
    have ac : ∀e∈X.after,dT .any e=true->e.on≠i:=fun e he hb af=>N (af▸Z e he hb)
    have h2:=wpOp_putIf O (M j X O L Y ac) (fun cs b=>V i oi cs b hi) (fun cs b=>V j X cs b O) hQ hy h1;have U : ∀k ok,ops[k]? = some ok->k≠i->(F.setIfInBounds j true).getD k true=false ->
     (∀e∈ok.after,dT .any e=true->e.on≠i)->oi.apart ops ok=true:=fun k ok hk ag N ah=>by
     refine M k ok hk ag ?_ ah;by_cases ad:j=k
     . subst ad;exact Y
     . rw [getD_set_ne true ad] at N;exact N
    refine wpOp_mono (fun a' w' h3=>⟨fun _=>h3.2.1 ab,ih (F.setIfInBounds j true) a' w' (aa.set hj) U (ready_mono hr (Ne.symm L)) h3.1 (h3.2.1 ab) ?_⟩) h2;rw [Array.setIfInBounds_comm _ _ L];exact h3.2.2
end
inductive Sc where
 | done
 | pure (i:Nat) (r:Sc)
 | fork (i:Nat) (x r:Sc)
 | none
 | tail
def Sc.alts:Sc->List Nat
 | .fork i _ r=>i::r.alts
 | _=>[]
def Fv (ops:Array Oper):Nat->Nat->Array Bool->Bool
 | 0,_,listed=>(cZ .any ops listed).isEmpty
 | f+1,k,listed=>(cZ .any ops listed==[k])&&Fv ops f (k+1) (listed.setIfInBounds k true)
def Sc.ok (ops:Array Oper) (K:Nat):Bool->Sc->Nat->Array Bool->Bool
 | true,.done,_,listed=>(cZ .any ops listed).isEmpty
 | true,.pure i r,f+1,listed=>cV i K&&(cZ .any ops listed).contains i&&Region.free .any ops listed i&&Sc.ok ops K true r f (listed.setIfInBounds i true)
 | true,.fork i x r,f+1,listed=>(cZ .any ops listed).all (fun j=>(i::r.alts).contains j)&&(cZ .any ops listed).contains i&&Sc.ok ops K true x f (listed.setIfInBounds i true)&&Sc.ok ops K false r (f+1) listed
 | true,.tail,f,listed=>eC (f+K) ops.size&&Fv ops f K listed
 | false,.fork i x r,f+1,listed=>(cZ .any ops listed).contains i&&Sc.ok ops K true x f (listed.setIfInBounds i true)&&Sc.ok ops K false r (f+1) listed
 | false,.none,_,_=>true
 | _,_,_,_=>false
def HT (P:Program) (ops:Array Oper) (Q:Exit->Act->wD->Prop) (S:wD->Prop) (K:Nat):Sc->Act->wD->Prop
 | .done,a,w=>Q .normal a w
 | .pure i r,a,w=> ∃o v,ops.toList[i]? = some o/\YieldsIf P ops S o v a/\HT P ops Q S K r (a.put o.dst v) w
 | .fork i x r,a,w=>wpOp P ops Q i (fun a' w'=>S w'/\HT P ops Q S K x a' w') a w/\HT P ops Q S K r a w
 | .none,_,_=>True
 | .tail,a,w=>wpList P ops Q (ops.toList.drop K) a w
def Kl {P:Program} {ops:Array Oper} {Q:Exit->Act->wD->Prop} {S:wD->Prop} {K:Nat} : ∀(f k:Nat) (F:Array Bool) (a:Act) (w:wD),K<=k->f+k=ops.size->Fv ops f k F=true->wpList P ops Q (ops.toList.drop k) a w->Hy P ops Q S K f F a w
 | 0,k,F,a,w,O,U,G,h=>by
  have:ops.toList.drop k=[]:=List.drop_eq_nil_of_le (by simp;omega);rw [this] at h;exact ⟨by simpa [Fv] using G,h⟩
 | f+1,k,F,a,w,O,U,G,h=>by
  simp only [Fv,bZ,beq_iff_eq] at G;have L:k<ops.toList.length:=by simp;omega
  rw [dH L] at h;refine ⟨fun e=>absurd (G.1.symm.trans e) (by simp),fun i M=>?_⟩;rw [G.1] at M;simp only [List.mem_singleton] at M;subst M;have V:ops[i]? = some ops.toList[i]:=by simp
  unfold wpList at h;unfold wpOp;rw [V];simp only;split
  . rename_i N;rw [AG N] at h;rcases h with h|h
    . exact bW (Oper.wp_mono (fun X w' Y=>⟨fun L=>by omega,Kl f (i+1) _ X w' (by omega) (by omega) G.2 Y⟩) h)
    . exact bX h
  . rename_i N;rw [As N] at h;exact ⟨fun L=>by omega,Kl f (i+1) _ _ w (by omega) (by omega) G.2 h⟩
def HT.any {P:Program} {ops:Array Oper} {Q:Exit->Act->wD->Prop} {S:wD->Prop} {K:Nat} (Y:Region.noSelect ops=true) (M : ∀i,i<K->EX ops K i) (Z:D3 Q) :
 ∀(s:Sc) (f:Nat) (F:Array Bool) (a:Act) (w:wD),DC ops F->S w->HT P ops Q S K s a w ->
  (Sc.ok ops K true s f F=true->Hy P ops Q S K f F a w) /\
  (Sc.ok ops K false s f F=true -> ∀i∈s.alts,∀f',f=f'+1->wpOp P ops Q i (fun X w'=>(i<K->S w')/\Hy P ops Q S K f' (F.setIfInBounds i true) X w') a w)
 | .done,f,F,a,w,L,N,h=>by
  refine ⟨fun G=>?_,fun G=>by simp [Sc.ok] at G⟩;have U:cZ .any ops F=[]:=by simpa [Sc.ok] using G
  cases f with
  | zero=>exact ⟨U,h⟩
  | succ f=>exact ⟨fun _=>h,by rw [U];simp⟩
 | .none,f,F,a,w,L,N,h=>⟨fun G=>by simp [Sc.ok] at G,fun G=>by simp [Sc.alts]⟩
 | .tail,f,F,a,w,L,N,h=>⟨fun G=>by
  simp only [Sc.ok,bZ] at G;exact Kl f K F a w (cH _) (dO G.1) G.2 h,fun G=>by simp [Sc.ok] at G⟩
 | .pure i r,0,F,a,w,L,N,h=>⟨fun G=>by simp [Sc.ok] at G,fun G=>by simp [Sc.ok] at G⟩
 | .pure i r,f+1,F,a,w,L,N,h=>⟨fun G=>by
  simp only [Sc.ok,bZ] at G;obtain ⟨o,v,ho,hy,U⟩:=h;have hi:ops[i]? = some o:=by simpa using ho
  have O:i∈cZ .any ops F:=by simpa using G.1.1.2
  exact On hi (dE G.1.1.1) (M i (dE G.1.1.1)) (Region.noSelect_spec Y) (fun c a w=>Z o.dst v c a w) f F a w L (Region.free_spec hi G.1.2) O hy N
   ((HT.any Y M Z r f _ _ w (L.set O) N U).1 G.2),fun G=>by simp [Sc.ok] at G⟩
 | .fork i x r,0,F,a,w,L,N,h=>⟨fun G=>by simp [Sc.ok] at G,fun G=>by simp [Sc.ok] at G⟩
 | .fork i x r,f+1,F,a,w,L,N,h=>by
  have key:i∈cZ .any ops F->Sc.ok ops K true x f (F.setIfInBounds i true)=true->wpOp P ops Q i (fun X w'=>(i<K->S w')/\Hy P ops Q S K f (F.setIfInBounds i true) X w') a w:=fun O G=>
   wpOp_mono (fun X w' h'=>⟨fun _=>h'.1,(HT.any Y M Z x f _ X w' (L.set O) h'.1 h'.2).1 G⟩) h.1
  have U:=HT.any Y M Z r (f+1) F a w L N h.2;refine ⟨fun G=>?_,fun G j V f' hf=>?_⟩
  . simp only [Sc.ok,bZ] at G;obtain ⟨⟨⟨h1,h4⟩,h2⟩,h3⟩:=G;refine ⟨fun e=>by rw [e] at h4;simp at h4,fun j V=>?_⟩;have:=List.all_eq_true.1 h1 j V;simp only [List.contains_eq_mem,dQ,decide_eq_true_eq] at this;rcases this with rfl|aa
    . exact key V h2
    . exact U.2 h3 j aa f rfl
  . simp only [Sc.ok,bZ] at G;obtain rfl:f=f':=by omega
    simp only [Sc.alts,dQ] at V;rcases V with rfl|V
    . exact key (by simpa using G.1.1) G.1.2
    . exact U.2 G.2 j V f rfl
def Lx {α:Type}:Nat->List α->Option (List α)
 | 0,l=>some l
 | _+1,[]=>some []
 | k+1,_::l=>Lx k l
def GY {α:Type} : ∀ {k:Nat} {l m:List α},Lx k l=some m->l.drop k=m
 | 0,l,m,h=>by simpa [Lx] using h
 | _+1,[],m,h=>by simpa [Lx] using h
 | k+1,_::l,m,h=>by simpa using GY (k:=k) (l:=l) h
def Cq {p:Prop} [Decidable p] (h:p):(decide p==true)=true:=by simp [h]
def FO {p:Prop} [Decidable p] (h : ¬p):(decide p==true)=false:=by simp [h]
def FP {p:Prop} [Decidable p] (h:p):(decide p==false)=false:=by simp [h]
def GD {p:Prop} [Decidable p] (h : ¬p):(decide p==false)=true:=by simp [h]
def Nl {b:Bool} (h:b=true):(b==true)=true:=by simp [h]
def Nm {b:Bool} (h:b=false):(b==true)=false:=by simp [h]
def Nn {b:Bool} (h:b=true):(b==false)=false:=by simp [h]
def No {b:Bool} (h:b=false):(b==false)=true:=by simp [h]
def TW (P:Program) (n:Nat) (ops:Array Oper) (Q:Exit->Act->wD->Prop) (S:wD->Prop) (K:Nat) (s:Sc) (l:Sl) (w:wD):Prop:= ∀a,Env n l a->HT P ops Q S K s a w
section draws
variable {P:Program} {n:Nat} {ops:Array Oper} {Q:Exit->Act->wD->Prop} {S:wD->Prop} {K:Nat} {l:Sl} {w:wD}
 {d i:Nat} {ty:TypeId} {pos:String} {after:Array Edge} {r x:Sc}
def Ar {X:Nat} {F:List Oper} (S:wD->Prop) (K:Nat) (s:Sc) (Y:P.follows .mixedOrders=true) (L:(Region.noSelect F.toArray&&(dW F.length K||Kk F.toArray K)&&Sc.ok F.toArray K true s F.length (eO F.length false))=true) (Z:D3 Q)
 (h : ∀w1,Ext w w1->w1.heap=w.heap->S w1/\TW P n F.toArray Q S K s l w1):CW P n (.region X F.toArray true) Q l w:=by
 unfold CW;intro a ha;simp only [bZ] at L;obtain ⟨h1,h2⟩:=h w.drew (Ext.refl w).drew rfl;have N : ∀i,i<K->EX F.toArray K i:=by
  by_cases V:K<F.toArray.size
  . have G:=L.1.2;simp only [Bool.or_eq_true] at G;rcases G with G|G
    . have:=dE G;simp at V;omega
    . exact Fe G V
  . intro i hi M j o _ hj ho _;have aa:j<F.toArray.size:=(Array.getElem?_eq_some_iff.1 ho).1;omega
 have O:DC F.toArray (eO F.length false):=fun k o _ G=>by
  exfalso;rcases cO k F.length with U|U
  . simp [U] at G
  . simp [dX,U] at G
 refine wp_region_any Y (Lw (S:=S) (K:=K) _ _ _ _ ?_);have:=(HT.any L.1.1 N Z s F.length (eO F.length false) a w.drew O h1 (h2 a ha)).1 L.2;simpa using this
def Aw:TW P n ops Q S K .none l w:=fun _ _=>trivial
def At {F:List Oper} (G:Lx K ops.toList=some F) (h:LW P n ops Q F l w):TW P n ops Q S K .tail l w:=by
 unfold LW at h;intro a L;show wpList P ops Q (ops.toList.drop K) a w;rw [GY G];exact h a L
def Xh {op:Op} {v:Value} (G:ops.toList[i]? = some ⟨some d,op,ty,pos,after,none⟩) (h:BB P n l S op ty v) (L:cV d n=true) (k:TW P n ops Q S K r ((d,v)::l) w) :
 TW P n ops Q S K (.pure i r) l w:=by
 unfold BB at h;exact fun a F=>⟨_,v,G,bW ⟨rfl,fun w M=>h a w _ _ _ _ F M⟩,k _ (F.put L v)⟩
def Dm {op:Op} {v:Value} {j dj:Nat} {h b:Bool} (L:ops.toList[i]? = some ⟨some d,op,ty,pos,after,some (j,h)⟩) (M:BM ops j=some dj) (N:cV dj n=true) (O:look l dj=some (.bool b)) (U:(b==h)=true)
 (G:BB P n l S op ty v) (V:cV d n=true) (k:TW P n ops Q S K r ((d,v)::l) w):TW P n ops Q S K (.pure i r) l w:=by
 unfold BB at G;exact fun a F=>⟨_,v,L,bW ⟨by rw [GC F rfl M N O,U],fun w X=>G a w _ _ _ _ F X⟩,k _ (F.put V v)⟩
def Dq {op:Op} {j dj:Nat} {h b:Bool} (G:ops.toList[i]? = some ⟨some d,op,ty,pos,after,some (j,h)⟩) (L:BM ops j=some dj) (M:cV dj n=true) (N:look l dj=some (.bool b)) (O:(b==h)=false)
 (U:cV d n=true) (k:TW P n ops Q S K r ((d,undef)::l) w):TW P n ops Q S K (.pure i r) l w:=fun a F=>
 ⟨_,undef,G,bX ⟨by rw [GC F rfl L M N,O],rfl⟩,k _ (F.put U undef)⟩
def Ax {op:Op} {F:Option Value->wD->Prop} (O:ops.toList[i]? = some ⟨some d,op,ty,pos,after,none⟩) (M:B5 P n l op ty w F) (U:cV d n=true)
 (k : ∀v w1,F (some v) w1->S w1/\TW P n ops Q S K x ((d,v)::l) w1) (V : ∀w1,¬F none w1) (X:TW P n ops Q S K r l w):TW P n ops Q S K (.fork i x r) l w:=fun a G=>by
 unfold B5 at M;refine ⟨?_,X a G⟩;have L:ops[i]? = some ⟨some d,op,ty,pos,after,none⟩:=by simpa using O
 unfold wpOp;rw [L];simp only;rw [AG (Bo rfl)];left;exact M a _ _ _ _ _ _ G (fun v w1 N=>⟨(k v w1 N).1,(k v w1 N).2 _ (G.put U v)⟩) (fun w1 h=>absurd h (V w1))
def Rs {op:Op} {L:Option Value->wD->Prop} {j dj:Nat} {F b:Bool} (U:ops.toList[i]? = some ⟨some d,op,ty,pos,after,some (j,F)⟩) (V:BM ops j=some dj) (X:cV dj n=true) (Y:look l dj=some (.bool b)) (Z:(b==F)=true) (N:B5 P n l op ty w L) (hd:cV d n=true)
 (k : ∀v w1,L (some v) w1->S w1/\TW P n ops Q S K x ((d,v)::l) w1) (k0 : ∀w1,¬L none w1) (kr:TW P n ops Q S K r l w):TW P n ops Q S K (.fork i x r) l w:=fun a G=>by
 unfold B5 at N;refine ⟨?_,kr a G⟩;have M:ops[i]? = some ⟨some d,op,ty,pos,after,some (j,F)⟩:=by simpa using U
 unfold wpOp;rw [M];simp only;rw [AG (by rw [GC G rfl V X Y,Z])];left;exact N a _ _ _ _ _ _ G (fun v w1 O=>⟨(k v w1 O).1,(k v w1 O).2 _ (G.put hd v)⟩) (fun w1 h=>absurd h (k0 w1))
def Vc {op:Op} {L:Option Value->wD->Prop} (O:ops.toList[i]? = some ⟨none,op,ty,pos,after,none⟩) (M:B5 P n l op ty w L)
 (k : ∀v w1,L v w1->S w1/\TW P n ops Q S K x l w1) (U:TW P n ops Q S K r l w):TW P n ops Q S K (.fork i x r) l w:=fun a F=>by
 unfold B5 at M;refine ⟨?_,U a F⟩;have G:ops[i]? = some ⟨none,op,ty,pos,after,none⟩:=by simpa using O
 unfold wpOp;rw [G];simp only;rw [AG (Bo rfl)];left;exact M a _ _ _ _ _ _ F (fun v w1 N=>⟨(k _ w1 N).1,(k _ w1 N).2 _ F⟩) (fun w1 h=>⟨(k _ w1 h).1,(k _ w1 h).2 _ F⟩)
end draws
def EG {P:Program} {n:Nat} {l:Sl} {w:wD} {fn:Func} {R:Ending->wD->Prop} {tab:Tab} {t ty sz b:Nat} {s:Sk} {vs:lV} (h:fn.results = #[.cell t ty]) (T:TabOk P tab) (G:Az tab ty=some (s,sz)) (M:s.agg=true) (N:look l t=some (.pointer (some ⟨b,0,none⟩))) (O:Blk w b vs) (U:vs.length=sz)
 (V:R (.returned (.agg vs.toArray)) w):QW n (bodyPost P fn R) .ret l w:=by
 unfold QW;intro a L;refine ⟨L.defers,.agg vs.toArray,?_,V⟩;have e:(loadVar ty ⟨b,0,none⟩).run P w = .ok (.agg vs.toArray) w:=by
  simp only [cU,dC,cG,loadVar,DG (T _ _ _ G),M,if_true,Ck (T _ _ _ G)];rw [<-U,CM O.row]
 have F:=L.has t _ N;simp only [Array.getD_eq_getD_getElem?] at F;simp [results,h,F,e,asAddr]
attribute [irreducible] TW
section
variable {P:Program} {n:Nat} {l:Sl} {S:wD->Prop} {tab:Tab} {ty:TypeId} {x y:Operand} {t t' sz:Nat}
def Bn {f off h F:Nat} {L:List (Nat×Nat)} {s:Sk} {vs:lV} {v:Value} (T:TabOk P tab) (M:Az tab t=some (.struct L,sz)) (N:L[f]? = some (off,h)) (G:Az tab h=some (s,F)) (O:s.agg=false)
 (U:ev l x=some (.agg vs.toArray)) (V:vs[off]? = some v):BB P n l S (.field t x f) ty v:=by
 unfold BB;intro a w X pos after g Y _;obtain ⟨gs,Z,-,h2⟩:=(T _ _ _ M).under;obtain ⟨fd,h3,h4,h5,-⟩:=h2 f off h N;have e:(Instr.field t (.agg vs.toArray) f).run P w = .ok v w:=by
  simp only [Instr.field,cU,AF Z,cG,h3,asAgg,dC,part,h5,h4,DG (T _ _ _ G),O];simp [V]
 simp [execOp,Y.ev U,e]
def GE {i:Operand} {e h b o len cap:Nat} {k:IntKind} {j:Int} {F:Sk} {q:oA} (T:TabOk P tab) (G:Az tab t=some (.slice e,sz)) (L:Az tab e=some (F,h))
 (M:ev l x=some (.slice q len cap)) (N:q=some ⟨b,o,none⟩) (O:ev l i=some (.int k j)) (U:0<=j) (V:j<len):BB P n l S (.indexAddr t x i) ty (.pointer (some ⟨b,o+j.toNat*h,none⟩)):=by
 subst N;exact Bf T G L M O U V
def Ly (T:TabOk P tab) (F:Az tab t=some (.iface,sz)) (G:ev l x=some .nilIface):BB P n l S (.binOp .neq t x (.const .nilIface) t') ty (.bool false):=by
 unfold BB;intro a w L pos after g M _;obtain ⟨X,N⟩:=(T _ _ _ F).under;have e:(Op.equal t .nilIface .nilIface).run P w = .ok true w:=by
  refine (fun h=>h (Op.maxDepth-1):(∀d,(Op.equalIn (d+1) t .nilIface .nilIface).run P w = .ok true w)->_) (fun d=>?_);unfold Op.equalIn;simp only [cU,AF N,Result.andThen_ok,dC]
 have O:(eqGuard .neq t x (.const .nilIface) .nilIface .nilIface).run P w = .ok () w:=by
  unfold eqGuard;simp
 have U:(binOp .neq t .nilIface .nilIface).run P w = .ok (.bool false) w:=by
  unfold binOp;simp only [cU,e,Result.andThen_ok,dC,Bool.not_true]
 have V:a.eval (.const .nilIface) = .nilIface:=rfl;simp only [execOp,M.ev G,V,cU,O,U,Result.andThen_ok,dC]
def Vd {F:TypeId} {G:Value} (T:TabOk P tab) (L:Az tab t=some (.iface,sz)) (M:ev l x=some (.iface F G)):BB P n l S (.binOp .neq t x (.const .nilIface) t') ty (.bool true):=by
 unfold BB;intro a w N pos after g O _;obtain ⟨Z,U⟩:=(T _ _ _ L).under;have e:(Op.equal t (.iface F G) .nilIface).run P w = .ok false w:=by
  refine (fun h=>h (Op.maxDepth-1):(∀d,(Op.equalIn (d+1) t (.iface F G) .nilIface).run P w = .ok false w)->_) (fun d=>?_);unfold Op.equalIn;simp only [cU,AF U,Result.andThen_ok,dC]
 have V:(eqGuard .neq t x (.const .nilIface) (.iface F G) .nilIface).run P w = .ok () w:=by
  unfold eqGuard;simp
 have X:(binOp .neq t (.iface F G) .nilIface).run P w = .ok (.bool true) w:=by
  unfold binOp;simp only [cU,e,Result.andThen_ok,dC,Bool.not_false]
 have Y:a.eval (.const .nilIface) = .nilIface:=rfl;simp only [execOp,O.ev M,Y,cU,V,X,Result.andThen_ok,dC]
def CA {F:List (Nat×Nat)} {xs:List (Nat×Operand)} {ps:List (Nat×Value)} {G:List (Nat×Nat×lV)} {zt:EV} {zs:lV} (h:lV) (T:TabOk P tab) (Z:CN P zt)
 (L:Az tab t=some (.struct F,sz)) (M:Da zt t=some zs) (N:I2 tab F l xs=some (ps,G)) (O:IR G zs=some h):BB P n l S (.build t xs.toArray) ty (.agg h.toArray):=Tu T Z L M N O
def By {b o:Nat} {s:Sk} {vs:lV} (us:lV) (T:TabOk P tab) (h:Az tab t=some (s,sz)) (F:s.agg=true) (G:ev l x=some (.pointer (some ⟨b,o,none⟩)))
 (L : ∀w,S w->Blk w b vs) (M:dW (o+sz) vs.length=true) (N:(vs.drop o).take sz=us):BB P n l S (.load t x) ty (.agg us.toArray):=by subst N;exact DH T h F G L M
def DR {b o i:Nat} {s:Sk} {vs:lV} (us:lV) (T:TabOk P tab) (h:Az tab t=some (s,sz)) (F:s.agg=true) (G:ev l x=some (.pointer (some ⟨b,o+i,none⟩)))
 (L : ∀w,S w->Row w ⟨b,o,none⟩ vs) (M:dW (i+sz) vs.length=true) (N:(vs.drop i).take sz=us):BB P n l S (.load t x) ty (.agg us.toArray):=by subst N;exact IS T h F G L M
def Jz {w:wD} {fn:Func} {R:Ending->wD->Prop} {O F b u s:Nat} {U:Sk} {vs:lV} {v2 v3:Value} (h:fn.results = #[.cell O F,.tmp u,.tmp s]) (T:TabOk P tab) (V:Az tab F=some (U,sz)) (X:U.agg=true) (Y:look l O=some (.pointer (some ⟨b,0,none⟩))) (Z:Blk w b vs) (hl:vs.length=sz)
 (hu:look l u=some v2) (hz:look l s=some v3) (hR:R (.returned (.tuple #[.agg vs.toArray,v2,v3])) w):QW n (bodyPost P fn R) .ret l w:=by
 unfold QW;intro a N;refine ⟨N.defers,.tuple #[.agg vs.toArray,v2,v3],?_,hR⟩;have e:(loadVar F ⟨b,0,none⟩).run P w = .ok (.agg vs.toArray) w:=by
  simp only [cU,dC,cG,loadVar,DG (T _ _ _ V),X,if_true,Ck (T _ _ _ V)];rw [<-hl,CM Z.row]
 have G:=N.has O _ Y;have L:=N.has u _ hu;have M:=N.has s _ hz;simp only [Array.getD_eq_getD_getElem?] at G L M;simp [results,h,G,L,M,e,asAddr]
def Oo {a:Act} (G:Env n l a) {ops:Array Oper} {j dj:Nat} {h:Bool} {o:Oper} (M:o.guard=some (j,h)) (N:BM ops j=some dj) (O:cV dj n=true) (U:look l dj=some undef) :
 Region.wanted o (yielded ops a.tmps)=false:=by
 have L:=G.has dj _ U;have F:dj<a.tmps.size:=by rw [G.size];exact dE O
 have V:a.tmps[dj]? = some undef:=by
  rw [Array.getD_eq_getD_getElem?,Array.getElem?_eq_getElem F] at L;rw [Array.getElem?_eq_getElem F];simpa using L
 have X:(ops[j]?).bind (·.dst)=some dj:=by simpa [BM] using N
 unfold Region.wanted yielded;simp only [M,X,Option.bind_some,V];cases h<;>rfl
section rules
variable {w:wD} {ops:Array Oper} {Q:Exit->Act->wD->Prop} {rest:List Oper} {d:Nat} {pos:String} {after:Array Edge}
def JA {v:Value} (vs:lV) (h:ev l x=some v) (F:v.cells=vs.toArray) (G:cV d n=true)
 (k : ∀b w1,New w w1 b vs->LW P n ops Q rest ((d,.pointer (some ⟨b,0,none⟩))::l) w1):LW P n ops Q (⟨some d,.box t x,ty,pos,after,none⟩::rest) l w:=Kj h F G k
def Iv {zt:EV} (vs:lV) (Z:CN P zt) (h:Da zt t=some vs) (F:cV d n=true)
 (k : ∀b w1,New w w1 b vs->LW P n ops Q rest ((d,.pointer (some ⟨b,0,none⟩))::l) w1):LW P n ops Q (⟨some d,.alloc t,ty,pos,after,none⟩::rest) l w:=Fj Z h F k
def Km {b o:Nat} {s:Sk} {v:Value} {vs:lV} (us h:lV) (T:TabOk P tab) (F:Az tab t=some (s,sz)) (G:ev l x=some (.pointer (some ⟨b,o,none⟩))) (L:ev l y=some v)
 (M:v.cells=us.toArray) (N:us.length=sz) (O:us.all Value.one=true) (U:Blk w b vs) (V:dW (o+us.length) vs.length=true) (X:Bl vs o us=h)
 (k : ∀w1,Put w w1 b h->LW P n ops Q rest l w1):LW P n ops Q (⟨none,.store t x y,ty,pos,after,none⟩::rest) l w:=by
 subst X;exact Js T F G L M N O U V k
def Dd {w0:wD} {b:Nat} {s:Sk} {v:Value} {vs:lV} (us:lV) (T:TabOk P tab) (h:Az tab t=some (s,sz)) (F:ev l x=some (.pointer (some ⟨b,0,none⟩))) (G:ev l y=some v)
 (L:v.cells=us.toArray) (M:us.length=sz) (N:us.all Value.one=true) (O:New w0 w b vs) (U:us.length=vs.length)
 (k : ∀w1,New w0 w1 b us->LW P n ops Q rest l w1):LW P n ops Q (⟨none,.store t x y,ty,pos,after,none⟩::rest) l w:=Gg T h F G L M N O U k
def Dn {e h len:Nat} {G:Sk} {zt:EV} {zs:lV} {ps:List (Nat×Operand)} {vs:lV} (cs:lV) (T:TabOk P tab) (Z:CN P zt) (L:Az tab t=some (.slice e,sz)) (M:Az tab e=some (G,h))
 (N:Da zt e=some zs) (O:GX l 0 ps=some vs) (U:vs.length=len) (V:vs.all (fun v=>eC v.cells.size h)=true) (X:dW (len*h) 10000=true) (F:cV 0 (len*h)=true) (Y:(vs.map (·.cells.toList)).flatten=cs) :
 B5 P n l (.buildSlice t len ps.toArray) ty w (Ok w len cs e):=by subst Y;exact Rp T Z L M N O U V X F
def Cd {b o:Nat} {s:Sk} {vs:lV} (us:lV) (T:TabOk P tab) (h:Az tab t=some (s,sz)) (F:s.agg=true) (G:ev l x=some (.pointer (some ⟨b,o,none⟩)))
 (L:Blk w b vs) (M:dW (o+sz) vs.length=true) (N:(vs.drop o).take sz=us) (O:cV d n=true) (k:LW P n ops Q rest ((d,.agg us.toArray)::l) w):LW P n ops Q (⟨some d,.load t x,ty,pos,after,none⟩::rest) l w:=by
 subst N;exact Rq T h F G L M O k
def Ce {b o i:Nat} {s:Sk} {vs:lV} (us:lV) (T:TabOk P tab) (h:Az tab t=some (s,sz)) (F:s.agg=true) (G:ev l x=some (.pointer (some ⟨b,o+i,none⟩)))
 (L:Row w ⟨b,o,none⟩ vs) (M:dW (i+sz) vs.length=true) (N:(vs.drop i).take sz=us) (O:cV d n=true) (k:LW P n ops Q rest ((d,.agg us.toArray)::l) w):LW P n ops Q (⟨some d,.load t x,ty,pos,after,none⟩::rest) l w:=by
 subst N;exact Rr T h F G L M O k
def DS {K i b o:Nat} {r G:Sc} {s:Sk} {v:Value} {vs:lV} (us F:lV) (L:ops.toList[i]? = some ⟨none,.store t x y,ty,pos,after,none⟩) (T:TabOk P tab) (M:Az tab t=some (s,sz)) (N:ev l x=some (.pointer (some ⟨b,o,none⟩))) (O:ev l y=some v)
 (U:v.cells=us.toArray) (V:us.length=sz) (X:us.all Value.one=true) (Y:Blk w b vs) (Z:dW (o+us.length) vs.length=true) (he:Bl vs o us=F)
 (k : ∀w1,Put w w1 b F->S w1/\TW P n ops Q S K G l w1) (kr:TW P n ops Q S K r l w):TW P n ops Q S K (.fork i G r) l w:=by
 subst he;exact Vc L (GW T M N O U V X Y Z) (fun v w1 h=>by cases v with|none=>exact k w1 h|some _=>exact h.elim) kr
def Lz {op:Op} {j dj:Nat} {h:Bool} (G:BM ops j=some dj) (L:cV dj n=true) (M:look l dj=some undef) (N:cV d n=true)
 (k:LW P n ops Q rest ((d,undef)::l) w):LW P n ops Q (⟨some d,op,ty,pos,after,some (j,h)⟩::rest) l w:=by
 unfold LW at k ⊢;intro a F;unfold wpList;rw [Oo F rfl G L M];exact k _ (F.put N undef)
end rules
def IT {M e F G r:Nat} {k:lB} {z v:Value} {h:List (lB×Value)} (T:TabOk P tab) (N:Az tab t=some (.map M e,F)) (L:Az tab M=some (.str,G)) (O:((P.info? e).bind (·.zero))=some z)
 (U:ev l x=some (.map (some r))) (V:ev l y=some (str k)) (X : ∀w,S w->MapIs w r h) (Y:Jw h k=some v):BB P n l S (.lookup t x y true) ty (.tuple #[v,.bool true]):=by
 have:=Ls (P:=P) (n:=n) (ty:=ty) (c:=true) T N L O U V X;rw [Y] at this;exact this
def M1 {M e F G r:Nat} {k:lB} {z:Value} {h:List (lB×Value)} (T:TabOk P tab) (N:Az tab t=some (.map M e,F)) (L:Az tab M=some (.str,G)) (O:((P.info? e).bind (·.zero))=some z)
 (U:ev l x=some (.map (some r))) (V:ev l y=some (str k)) (X : ∀w,S w->MapIs w r h) (Y:Jw h k=none):BB P n l S (.lookup t x y true) ty (.tuple #[z,.bool false]):=by
 have:=Ls (P:=P) (n:=n) (ty:=ty) (c:=true) T N L O U V X;rw [Y] at this;exact this
def Xi {a b m:Int} (F:ev l x=some (.int .i64 a)) (G:ev l y=some (.int .i64 b)) (L:max a b=m):BB P n l S (.call ⟨.builtin .max,#[x,y],#[t,t']⟩) ty (.int .i64 m):=by
 unfold BB;intro c w M pos after g h _;have e:(if b>a then b else a)=m:=by rw [<-L];split<;>omega
 simp [execOp,resolve,invoke,builtin,Builtin.max_,Builtin.max2,h.ev F,h.ev G,e]
def LA {k:IntKind} {i:Nat} {a:lB} (T:TabOk P tab) (h:Az tab t=some (.str,sz)) (F:ev l x=some (str a)) (G:ev l y=some (.int k (i:Int))) (L:i<=a.length):BB P n l S (.slice t x (some y) none none) ty (str (a.drop i)):=
 Ty T h F G (by omega) (by omega)
def Ru {z:Operand} {k F:IntKind} {i m:Nat} {a:lB} (T:TabOk P tab) (G:Az tab t=some (.str,sz)) (L:ev l x=some (str a)) (M:ev l y=some (.int k (i:Int))) (N:ev l z=some (.int F ((i:Int)+(m:Int)))) (O:i+m<=a.length):BB P n l S (.slice t x (some y) (some z) none) ty (str ((a.drop i).take m)):=by
 have h:=Tz (P:=P) (n:=n) (l:=l) (S:=S) (ty:=ty) T G L M N (by omega) (by omega) (by omega);have e:(a.take ((i:Int)+(m:Int)).toNat).drop (i:Int).toNat=(a.drop i).take m:=by
  rw [show ((i:Int)+(m:Int)).toNat=i+m by omega,show (i:Int).toNat=i by omega,List.drop_take];congr 1;omega
 rw [e] at h;exact h
def Xj {k:IntKind} {a b c:Int} (F:ev l x=some (.int k a)) (G:ev l y=some (.int k b)) (L:b≠0) (M:k.wrap (a.tdiv b)=c):BB P n l S (.binOp .quo t x y t') ty (.int k c):=by
 unfold BB;intro d w N pos after g h _;subst M;simp [execOp,h.ev F,h.ev G,Bz,binOp,Op.intDiv,L]
def Xk {k:IntKind} {a b c:Int} (F:ev l x=some (.int k a)) (G:ev l y=some (.int k b)) (L:b≠0) (M:a.tmod b=c):BB P n l S (.binOp .rem t x y t') ty (.int k c):=by
 unfold BB;intro d w N pos after g h _;subst M;simp [execOp,h.ev F,h.ev G,Bz,binOp,Op.intDiv,L]
end
section
variable {P:Program} {n d:Nat} {ops:Array Oper} {Q:Exit->Act->wD->Prop} {rest:List Oper} {l:Sl} {w:wD} {ty:TypeId} {pos:String} {after:Array Edge} {S:wD->Prop}
def cN {G:Nat} {F:List Oper} {y:Code} (h:LW P n F.toArray (Exit.then (y.wp P Q) Q) F l w):LW P n ops (Exit.then ((Code.seq (.region G F.toArray false) y).wp P Q) Q) [] l w:=Ak (Ag (Ai (Aj h)))
def cT {y:Code} (h:CW P n y Q l w):LW P n ops (Exit.then (y.wp P Q) Q) [] l w:=Ak (Ag h)
def cS {G:Nat} {F:List Oper} {y:Code} (h:LW P n F.toArray (Exit.then (y.wp P Q) Q) F l w):CW P n (.seq (.region G F.toArray false) y) Q l w:=Ai (Aj h)
def cR {f:FuncId} {xs:List Operand} {tys:Array TypeId} {vs:lV} {R:Ending->wD->Prop} (G:CO P f=true) (F:evs l xs=some vs) (C:Calls P f vs.toArray w R) (L : ∀e w1,R e w1 -> ∃v,e = .returned v) (M:cV d n=true)
 (k : ∀v w1,ZM R (some v) w1->LW P n ops Q rest ((d,v)::l) w1):LW P n ops Q (⟨some d,.call ⟨.value (.func f),xs.toArray,tys⟩,ty,pos,after,none⟩::rest) l w:=
 AC (AU G F C L) M k (fun _ h=>h)
def cC {f:FuncId} {xs:List Operand} {tys:Array TypeId} {vs:lV} {v0:Value} {R:wD->Prop} (F:evs l xs=some vs) (C:Calls P f vs.toArray w (fun e w'=>e = .returned v0/\R w'))
 (k : ∀v w1,ZM (fun e w'=>e = .returned v0/\R w') (some v) w1->LW P n ops Q rest ((d,v)::l) w1) (G:CO P f=true:=by kernel_rfl) (L:cV d n=true:=by exact rfl):LW P n ops Q (⟨some d,.call ⟨.value (.func f),xs.toArray,tys⟩,ty,pos,after,none⟩::rest) l w:=
 AC (AU G F C (fun _ _ h=>⟨_,h.1⟩)) L k (fun _ h=>h)
def Mv {x:Operand} {v:Value} (h:ev l x=some v:=by exact rfl):BB P n l S (.move x) ty v:=AL h
def Pa {x:Operand} {v:Value} (h:ev l x=some v:=by exact rfl):BB P n l S (.assign x) ty v:=I1 h
def Pn {x:Operand} {a:Addr} (h:ev l x=some (.pointer (some a)):=by exact rfl):BB P n l S (.nilCheck x) ty (.pointer (some a)):=Bc h
def Pf {x:Operand} {s f b o off F sz:Nat} {h:List (Nat×Nat)} (G:ev l x=some (.pointer (some ⟨b,o,none⟩)):=by exact rfl) (L:Az tab s=some (.struct h,sz):=by exact rfl) (M:h[f]? = some (off,F):=by exact rfl) :
 BB prog n l S (.fieldAddr s x f) ty (.pointer (some ⟨b,o+off,none⟩)):=AO Ad G L M
def Pg {x:Operand} {s f b o F sz:Nat} {h:List (Nat×Nat)} (G:ev l x=some (.pointer (some ⟨b,o,none⟩)):=by exact rfl) (L:Az tab s=some (.struct h,sz):=by exact rfl) (M:h[f]? = some (0,F):=by exact rfl) :
 BB prog n l S (.fieldAddr s x f) ty (.pointer (some ⟨b,o,none⟩)):=BN Ad G L M
def Pi {x i:Operand} {t e sz h b o len cap:Nat} {k:IntKind} {j:Int} {F:Sk} (G:Az tab t=some (.slice e,sz):=by exact rfl) (L:Az tab e=some (F,h):=by exact rfl)
 (M:ev l x=some (.slice (some ⟨b,o,none⟩) len cap):=by exact rfl) (N:ev l i=some (.int k j):=by exact rfl) (O:0<=j:=by omega) (U:j<len:=by omega):BB prog n l S (.indexAddr t x i) ty (.pointer (some ⟨b,o+j.toNat*h,none⟩)):=Bf Ad G L M N O U
def Pz {x:Operand} {t e sz:Nat} {p:oA} {len cap:Nat} (h:Az tab t=some (.slice e,sz):=by exact rfl) (F:ev l x=some (.slice p len cap):=by exact rfl):BB prog n l S (.call ⟨.builtin .len,#[x],#[t]⟩) ty (.int .i64 len):=Cp Ad h F
def Py {x:Operand} {t sz:Nat} {a:lB} (h:Az tab t=some (.str,sz):=by exact rfl) (F:ev l x=some (str a):=by exact rfl):BB prog n l S (.call ⟨.builtin .len,#[x],#[t]⟩) ty (.int .i64 a.length):=Tv Ad h F
def Px {x:Operand} {i:Nat} {v:Value} {vs:lV} (h:ev l x=some (.tuple vs.toArray):=by exact rfl) (F:vs[i]? = some v:=by exact rfl):BB P n l S (.extract x i) ty v:=Pk h F
def Pt {x:Operand} {q:Bool} {t:TypeId} (h:ev l x=some (.bool q):=by exact rfl):BB P n l S (.unOp .not t x) ty (.bool !q):=Xf h
section
variable {x y:Operand} {k:IntKind} {a b:Int} {t t':TypeId}
def V1 (h:ev l x=some (.int k a):=by exact rfl) (F:ev l y=some (.int k b):=by exact rfl):BB P n l S (.binOp .eql t x y t') ty (.bool (decide (a=b))):=W9 h F
def V2 (h:ev l x=some (.int k a):=by exact rfl) (F:ev l y=some (.int k b):=by exact rfl):BB P n l S (.binOp .neq t x y t') ty (.bool (decide (a≠b))):=Xa h F
def V3 (h:ev l x=some (.int k a):=by exact rfl) (F:ev l y=some (.int k b):=by exact rfl):BB P n l S (.binOp .lss t x y t') ty (.bool (decide (a<b))):=Xb h F
def V4 (h:ev l x=some (.int k a):=by exact rfl) (F:ev l y=some (.int k b):=by exact rfl):BB P n l S (.binOp .leq t x y t') ty (.bool (decide (a<=b))):=Xc h F
def V5 (h:ev l x=some (.int k a):=by exact rfl) (F:ev l y=some (.int k b):=by exact rfl):BB P n l S (.binOp .gtr t x y t') ty (.bool (decide (b<a))):=Xd h F
def V6 (h:ev l x=some (.int k a):=by exact rfl) (F:ev l y=some (.int k b):=by exact rfl):BB P n l S (.binOp .geq t x y t') ty (.bool (decide (b<=a))):=Xe h F
def V7 (F:ev l x=some (.int .i64 a):=by exact rfl) (G:ev l y=some (.int .i64 b):=by exact rfl) (h : -9223372036854775808<=a+b/\a+b<=9223372036854775807:=by omega):BB P n l S (.binOp .add t x y t') ty (.int .i64 (a+b)):=Oi F G (dA _ h)
end
section
variable {x y:Operand} {a b:lB} {t t':TypeId}
def V8 (h:ev l x=some (str a):=by exact rfl) (F:ev l y=some (str b):=by exact rfl):BB P n l S (.binOp .eql t x y t') ty (.bool (decide (a=b))):=U8 h F
def V9 (h:ev l x=some (str a):=by exact rfl) (F:ev l y=some (str b):=by exact rfl):BB P n l S (.binOp .neq t x y t') ty (.bool (decide (a≠b))):=U9 h F
end
section
variable {c x y:Operand} {p:Prop} [Decidable p] {u:Value}
def Qy (h:p) (F:ev l c=some (.bool (decide p)):=by exact rfl) (G:ev l x=some u:=by exact rfl):BB P n l S (.pick c x y) ty u:=Fy F G h
def Qn (h : ¬p) (F:ev l c=some (.bool (decide p)):=by exact rfl) (G:ev l y=some u:=by exact rfl):BB P n l S (.pick c x y) ty u:=Gf F G h
def Rw (h:ev l c=some (.bool (decide p)):=by exact rfl) (F:ev l x=some u:=by exact rfl) (G:p:=by assumption):BB P n l S (.pick c x y) ty u:=Fy h F G
def Rk (h:ev l c=some (.bool (decide p)):=by exact rfl) (F:ev l y=some u:=by exact rfl) (G : ¬p:=by assumption):BB P n l S (.pick c x y) ty u:=Gf h F G
def Y3 (h:ev l c=some (.bool (decide p)):=by exact rfl) (F:ev l x=some u:=by exact rfl) (G:p:=by decide):BB P n l S (.pick c x y) ty u:=Fy h F G
def ZS (h:ev l c=some (.bool (decide p)):=by exact rfl) (F:ev l y=some u:=by exact rfl) (G : ¬p:=by decide):BB P n l S (.pick c x y) ty u:=Gf h F G
def SG (h:ev l c=some (.bool (decide p)):=by exact rfl) (F:ev l x=some u:=by exact rfl) (G:p:=by omega):BB P n l S (.pick c x y) ty u:=Fy h F G
def Jq (h:ev l c=some (.bool (decide p)):=by exact rfl) (F:ev l y=some u:=by exact rfl) (G : ¬p:=by omega):BB P n l S (.pick c x y) ty u:=Gf h F G
end
def Pl {x:Operand} {t sz b o:Nat} {s:Sk} {vs:lV} {v:Value} (h:Blk w b vs) (F:Az tab t=some (s,sz):=by exact rfl) (G:s.agg=false:=by exact rfl) (L:ev l x=some (.pointer (some ⟨b,o,none⟩)):=by exact rfl)
 (M:vs[o]? = some v:=by exact rfl):BB prog n l (fun x=>x=w) (.load t x) ty v:=An Ad F G L (fun O N=>by subst N;exact h.cell M)
def Pw {x:Operand} {t sz b o i:Nat} {s:Sk} {vs:lV} {v:Value} (h:Row w ⟨b,o,none⟩ vs) (F:Az tab t=some (s,sz):=by exact rfl) (G:s.agg=false:=by exact rfl) (L:ev l x=some (.pointer (some ⟨b,o+i,none⟩)):=by exact rfl)
 (M:vs[i]? = some v:=by exact rfl):BB prog n l (fun x=>x=w) (.load t x) ty v:=An Ad F G L (fun O N=>by subst N;exact h.at M)
def TA {x:Operand} {t sz b o:Nat} {s:Sk} {vs:lV} {v:Value} (h:Row w ⟨b,o,none⟩ vs) (F:Az tab t=some (s,sz):=by exact rfl) (G:s.agg=false:=by exact rfl) (L:ev l x=some (.pointer (some ⟨b,o,none⟩)):=by exact rfl)
 (M:vs[0]? = some v:=by exact rfl):BB prog n l (fun x=>x=w) (.load t x) ty v:=An Ad F G L (fun O N=>by subst N;exact h.at0 M)
def W7 {x:Operand} {t sz b o:Nat} {s:Sk} {vs:lV} (h:Row w ⟨b,o,none⟩ vs) (F:Az tab t=some (s,sz):=by exact rfl) (G:s.agg=true:=by exact rfl) (L:ev l x=some (.pointer (some ⟨b,o,none⟩)):=by exact rfl)
 (M:vs.length=sz:=by exact rfl):BB prog n l (fun x=>x=w) (.load t x) ty (.agg vs.toArray):=Cl Ad F G L (fun O N=>by subst N;exact h) M
section
variable {x:Operand} {t sz b o i:Nat} {s:Sk} {vs:lV} {v:Value} {w0:wD}
def Db (F:Blk w0 b vs) (G:Az tab t=some (s,sz):=by exact rfl) (L:s.agg=false:=by exact rfl) (M:ev l x=some (.pointer (some ⟨b,o,none⟩)):=by exact rfl) (N:vs[o]? = some v:=by exact rfl) :
 BB prog n l (fun h=>Ext w0 h) (.load t x) ty v:=An Ad G L M (fun h O=>Blk.cell (Blk.ext F O) N)
def Dr (F:Row w0 ⟨b,o,none⟩ vs) (G:Az tab t=some (s,sz):=by exact rfl) (L:s.agg=false:=by exact rfl) (M:ev l x=some (.pointer (some ⟨b,o+i,none⟩)):=by exact rfl) (N:vs[i]? = some v:=by exact rfl) :
 BB prog n l (fun h=>Ext w0 h) (.load t x) ty v:=An Ad G L M (fun h O=>Row.at (Row.ext F O) N)
end
def C1 {op:Op} {v:Value} (h:BB P n l (fun x=>x=w) op ty v) (k:LW P n ops Q rest ((d,v)::l) w) (F:cV d n=true:=by exact rfl):LW P n ops Q (⟨some d,op,ty,pos,after,none⟩::rest) l w:=CD h F k
def cM {x:Operand} {v:Value} (h:ev l x=some v) (k:LW P n ops Q rest ((d,v)::l) w) (F:cV d n=true:=by exact rfl):LW P n ops Q (⟨some d,.move x,ty,pos,after,none⟩::rest) l w:=CD (AL h) F k
def cA {x:Operand} {v:Value} (h:ev l x=some v) (k:LW P n ops Q rest ((d,v)::l) w) (F:cV d n=true:=by exact rfl):LW P n ops Q (⟨some d,.assign x,ty,pos,after,none⟩::rest) l w:=CD (I1 h) F k
def Tq {K i:Nat} {r:Sc} {op:Op} {v:Value} (h:ops.toList[i]? = some ⟨some d,op,ty,pos,after,none⟩) (F:BB P n l S op ty v) (k:TW P n ops Q S K r ((d,v)::l) w) (G:cV d n=true:=by exact rfl):TW P n ops Q S K (.pure i r) l w:=Xh h F G k
section
variable {c:Operand} {x y:Code} {p:Prop} [Decidable p]
def U4 (h:CW P n y Q l w) (F:ev l c=some (.bool (decide p)):=by exact rfl) (G : ¬p:=by assumption):CW P n (.cond c x y) Q l w:=Fu F G h
def Ph (h:CW P n x Q l w) (F:ev l c=some (.bool (decide p)):=by exact rfl) (G:p:=by assumption):CW P n (.cond c x y) Q l w:=Rm F G h
def Np (h:CW P n y Q l w) (F:ev l c=some (.bool (decide p)):=by exact rfl) (G : ¬p:=by decide):CW P n (.cond c x y) Q l w:=Fu F G h
def Ve (h:CW P n x Q l w) (F:ev l c=some (.bool (decide p)):=by exact rfl) (G:p:=by decide):CW P n (.cond c x y) Q l w:=Rm F G h
def Ds (h:CW P n y Q l w) (F:ev l c=some (.bool (decide p)):=by exact rfl) (G : ¬p:=by omega):CW P n (.cond c x y) Q l w:=Fu F G h
def Vf (h:CW P n x Q l w) (F:ev l c=some (.bool (decide p)):=by exact rfl) (G:p:=by omega):CW P n (.cond c x y) Q l w:=Rm F G h
end
section
variable {op:Op} {j dj:Nat} {p:Prop} [Decidable p]
def Y4 (k:LW P n ops Q (⟨some d,op,ty,pos,after,none⟩::rest) l w) (h:BM ops j=some dj:=by exact rfl) (F:cV dj n=true:=by exact rfl) (G:look l dj=some (.bool (decide p)):=by exact rfl) (L:p:=by assumption):LW P n ops Q (⟨some d,op,ty,pos,after,some (j,true)⟩::rest) l w:=Bh h F G (Cq L) k
def Rx (k:LW P n ops Q (⟨some d,op,ty,pos,after,none⟩::rest) l w) (h:BM ops j=some dj:=by exact rfl) (F:cV dj n=true:=by exact rfl) (G:look l dj=some (.bool (decide p)):=by exact rfl) (L:p:=by decide):LW P n ops Q (⟨some d,op,ty,pos,after,some (j,true)⟩::rest) l w:=Bh h F G (Cq L) k
def Vg (k:LW P n ops Q (⟨some d,op,ty,pos,after,none⟩::rest) l w) (h:BM ops j=some dj:=by exact rfl) (F:cV dj n=true:=by exact rfl) (G:look l dj=some (.bool (decide p)):=by exact rfl) (L:p:=by omega):LW P n ops Q (⟨some d,op,ty,pos,after,some (j,true)⟩::rest) l w:=Bh h F G (Cq L) k
def Ga (k:LW P n ops Q (⟨some d,op,ty,pos,after,none⟩::rest) l w) (h:BM ops j=some dj:=by exact rfl) (F:cV dj n=true:=by exact rfl) (G:look l dj=some (.bool (decide p)):=by exact rfl) (L : ¬p:=by assumption):LW P n ops Q (⟨some d,op,ty,pos,after,some (j,false)⟩::rest) l w:=Bh h F G (GD L) k
def aT (k:LW P n ops Q (⟨some d,op,ty,pos,after,none⟩::rest) l w) (h:BM ops j=some dj:=by exact rfl) (F:cV dj n=true:=by exact rfl) (G:look l dj=some (.bool (decide p)):=by exact rfl) (L : ¬p:=by decide):LW P n ops Q (⟨some d,op,ty,pos,after,some (j,false)⟩::rest) l w:=Bh h F G (GD L) k
def EB (k:LW P n ops Q (⟨some d,op,ty,pos,after,none⟩::rest) l w) (h:BM ops j=some dj:=by exact rfl) (F:cV dj n=true:=by exact rfl) (G:look l dj=some (.bool (decide p)):=by exact rfl) (L : ¬p:=by omega):LW P n ops Q (⟨some d,op,ty,pos,after,some (j,false)⟩::rest) l w:=Bh h F G (GD L) k
def Gb (k:LW P n ops Q rest ((d,undef)::l) w) (h:BM ops j=some dj:=by exact rfl) (F:cV dj n=true:=by exact rfl) (G:look l dj=some (.bool (decide p)):=by exact rfl) (L:p:=by assumption) (M:cV d n=true:=by exact rfl):LW P n ops Q (⟨some d,op,ty,pos,after,some (j,false)⟩::rest) l w:=Bm h F G (FP L) M k
def Vh (k:LW P n ops Q rest ((d,undef)::l) w) (h:BM ops j=some dj:=by exact rfl) (F:cV dj n=true:=by exact rfl) (G:look l dj=some (.bool (decide p)):=by exact rfl) (L:p:=by decide) (M:cV d n=true:=by exact rfl):LW P n ops Q (⟨some d,op,ty,pos,after,some (j,false)⟩::rest) l w:=Bm h F G (FP L) M k
def bI (k:LW P n ops Q rest ((d,undef)::l) w) (h:BM ops j=some dj:=by exact rfl) (F:cV dj n=true:=by exact rfl) (G:look l dj=some (.bool (decide p)):=by exact rfl) (L:p:=by omega) (M:cV d n=true:=by exact rfl):LW P n ops Q (⟨some d,op,ty,pos,after,some (j,false)⟩::rest) l w:=Bm h F G (FP L) M k
def Ry (k:LW P n ops Q rest ((d,undef)::l) w) (h:BM ops j=some dj:=by exact rfl) (F:cV dj n=true:=by exact rfl) (G:look l dj=some (.bool (decide p)):=by exact rfl) (L : ¬p:=by assumption) (M:cV d n=true:=by exact rfl):LW P n ops Q (⟨some d,op,ty,pos,after,some (j,true)⟩::rest) l w:=Bm h F G (FO L) M k
def Y5 (k:LW P n ops Q rest ((d,undef)::l) w) (h:BM ops j=some dj:=by exact rfl) (F:cV dj n=true:=by exact rfl) (G:look l dj=some (.bool (decide p)):=by exact rfl) (L : ¬p:=by decide) (M:cV d n=true:=by exact rfl):LW P n ops Q (⟨some d,op,ty,pos,after,some (j,true)⟩::rest) l w:=Bm h F G (FO L) M k
def aQ (k:LW P n ops Q rest ((d,undef)::l) w) (h:BM ops j=some dj:=by exact rfl) (F:cV dj n=true:=by exact rfl) (G:look l dj=some (.bool (decide p)):=by exact rfl) (L : ¬p:=by omega) (M:cV d n=true:=by exact rfl):LW P n ops Q (⟨some d,op,ty,pos,after,some (j,true)⟩::rest) l w:=Bm h F G (FO L) M k
end
end
 class LfE (w w':wD) (p:Prop) (q:outParam Prop):Prop where
 up:Ext w w'->p->q
 class LfF (S:nP) (w w':wD) (p:Prop) (s q:outParam Prop):Prop where
 up:Fr S w w'->s->p->q
 class ChE (w w':wD) (g:Prop) (g':outParam Prop):Prop where
 up:Ext w w'->g'->g
 class ChF (S:nP) (w w':wD) (g:Prop) (s g':outParam Prop):Prop where
 up:Fr S w w'->s->g'->g
instance (priority:=low) chE0 {w w':wD} {g:Prop}:ChE w w' g g:=⟨fun _ h=>h⟩
instance (priority:=low) chF0 {S:nP} {w w':wD} {g:Prop}:ChF S w w' g True g:=⟨fun _ _ h=>h⟩
instance chE1 {w w':wD} {p q g g':Prop} [LfE w w' p q] [ChE w w' g g']:ChE w w' (p->g) (q->g'):=⟨fun x h a=>ChE.up x (h (LfE.up x a))⟩
instance chF1 {S:nP} {w w':wD} {p s q g r g':Prop} [LfF S w w' p s q] [ChF S w w' g r g']:ChF S w w' (p->g) (s/\r) (q->g'):=⟨fun x s h a=>ChF.up x s.2 (h (LfF.up x s.1 a))⟩
def eE {w w':wD} {g g':Prop} (x:Ext w w') (k:g') [ChE w w' g g']:g:=ChE.up x k
def eF {S:nP} {w w':wD} {g s g':Prop} (x:Fr S w w') (k:g') [ChF S w w' g s g'] (h:s:=by (repeat' apply And.intro)<;>first|exact trivial|omega|(simp only;omega)|exact fun k F=>bW F|exact fun b G h=>h (bW G)|exact fun k F=>bW (fun h=>F (bW h))|exact fun h=>h (bX ⟨by omega,by omega⟩)|exact fun h=>h (bW (bX ⟨by omega,by omega⟩))):g:=ChF.up x h k
section
variable {P:Program} {n d:Nat} {ops:Array Oper} {Q:Exit->Act->wD->Prop} {rest:List Oper} {l:Sl} {w:wD} {ty:TypeId} {pos:String} {after:Array Edge}
def eB {x:Operand} {t:Nat} {v:Value} (vs:lV) (k : ∀b w1,Blk w1 b vs->Ext w w1->b=w.heap.size->w1.heap.size=b+1->LW P n ops Q rest ((d,.pointer (some ⟨b,0,none⟩))::l) w1) (F:ev l x=some v:=by exact rfl) (G:v.cells=vs.toArray:=by exact rfl) (L:cV d n=true:=by exact rfl) :
 LW P n ops Q (⟨some d,.box t x,ty,pos,after,none⟩::rest) l w:=JA vs F G L fun b w1 h=>k b w1 h.blk h.ext h.pos h.size
def eA {t:Nat} (vs:lV) (k : ∀b w1,Blk w1 b vs->Ext w w1->b=w.heap.size->w1.heap.size=b+1->LW prog n ops Q rest ((d,.pointer (some ⟨b,0,none⟩))::l) w1) (F:Da zt t=some vs:=by exact rfl) (G:cV d n=true:=by exact rfl) :
 LW prog n ops Q (⟨some d,.alloc t,ty,pos,after,none⟩::rest) l w:=Iv vs CY F G fun b w1 h=>k b w1 h.blk h.ext h.pos h.size
def eI {w0:wD} {x y:Operand} {t sz b:Nat} {s:Sk} {v:Value} {vs:lV} (us:lV) (F:New w0 w b vs) (k : ∀w1,Blk w1 b us->Ext w0 w1->b=w0.heap.size->w1.heap.size=b+1->LW prog n ops Q rest l w1) (G:Az tab t=some (s,sz):=by exact rfl)
 (L:ev l x=some (.pointer (some ⟨b,0,none⟩)):=by exact rfl) (M:ev l y=some v:=by exact rfl) (N:v.cells=us.toArray:=by exact rfl) (O:us.length=sz:=by exact rfl) (U:us.all Value.one=true:=by exact rfl) (V:us.length=vs.length:=by exact rfl) :
 LW prog n ops Q (⟨none,.store t x y,ty,pos,after,none⟩::rest) l w:=Dd us Ad G L M N O U F V fun w1 h=>k w1 h.blk h.ext h.pos h.size
def eV {x y:Operand} {t sz b o:Nat} {s:Sk} {v:Value} {vs:lV} (us F:lV) (G:Blk w b vs) (k : ∀w1,Blk w1 b F->Fr (· = b) w w1->w1.heap.size=w.heap.size->LW prog n ops Q rest l w1) (L:Az tab t=some (s,sz):=by exact rfl)
 (M:ev l x=some (.pointer (some ⟨b,o,none⟩)):=by exact rfl) (N:ev l y=some v:=by exact rfl) (O:v.cells=us.toArray:=by exact rfl) (U:us.length=sz:=by exact rfl) (V:us.all Value.one=true:=by exact rfl) (X:dW (o+us.length) vs.length=true:=by exact rfl) (Y:Bl vs o us=F:=by exact rfl) :
 LW prog n ops Q (⟨none,.store t x y,ty,pos,after,none⟩::rest) l w:=Km us F Ad L M N O U V G X Y fun w1 h=>k w1 h.blk h.fr h.size
def eS {x y:Operand} {t sz b o:Nat} {s:Sk} {v:Value} {vs:lV} (us:lV) (F:Blk w b vs) (k : ∀w1,Blk w1 b us->Fr (· = b) w w1->w1.heap.size=w.heap.size->LW prog n ops Q rest l w1) (G:Az tab t=some (s,sz):=by exact rfl)
 (L:ev l x=some (.pointer (some ⟨b,o,none⟩)):=by exact rfl) (M:ev l y=some v:=by exact rfl) (N:v.cells=us.toArray:=by exact rfl) (O:us.length=sz:=by exact rfl) (U:us.all Value.one=true:=by exact rfl) (V:dW (o+us.length) vs.length=true:=by exact rfl) (X:Bl vs o us=us:=by exact rfl) :
 LW prog n ops Q (⟨none,.store t x y,ty,pos,after,none⟩::rest) l w:=Km us us Ad G L M N O U F V X fun w1 h=>k w1 h.blk h.fr h.size
def eQ {f:FuncId} {xs:List Operand} {tys:Array TypeId} {vs:lV} {R:Ending->wD->Prop} (F:evs l xs=some vs) (C:Calls P f vs.toArray w R) (k : ∀v w1,ZM R (some v) w1->LW P n ops Q rest ((d,v)::l) w1) (G:CO P f=true:=by kernel_rfl) (L : ∀e w1,R e w1 -> ∃v,e = .returned v:=by exact fun _ _ h=>h.ret) (M:cV d n=true:=by exact rfl) :
 LW P n ops Q (⟨some d,.call ⟨.value (.func f),xs.toArray,tys⟩,ty,pos,after,none⟩::rest) l w:=cR G F C L M k
def Hu {x:Operand} {t sz b o:Nat} {s:Sk} {vs:lV} {v:Value} (h:Az tab t=some (s,sz):=by exact rfl) (F:s.agg=false:=by exact rfl) (G:ev l x=some (.pointer (some ⟨b,o,none⟩)):=by exact rfl) (L:Blk w b vs:=by assumption)
 (M:vs[o]? = some v:=by exact rfl):BB prog n l (fun x=>x=w) (.load t x) ty v:=Pl L h F G M
def bJ {x:Operand} {t sz b o:Nat} {s:Sk} {vs:lV} {v:Value} (h:Az tab t=some (s,sz):=by exact rfl) (F:s.agg=false:=by exact rfl) (G:ev l x=some (.pointer (some ⟨b,o,none⟩)):=by exact rfl) (L:Row w ⟨b,o,none⟩ vs:=by assumption)
 (M:vs[0]? = some v:=by exact rfl):BB prog n l (fun x=>x=w) (.load t x) ty v:=TA L h F G M
def bK {x:Operand} {t sz b o:Nat} {s:Sk} {vs:lV} (h:Az tab t=some (s,sz):=by exact rfl) (F:s.agg=true:=by exact rfl) (G:ev l x=some (.pointer (some ⟨b,o,none⟩)):=by exact rfl) (L:Row w ⟨b,o,none⟩ vs:=by assumption)
 (M:vs.length=sz:=by exact rfl):BB prog n l (fun x=>x=w) (.load t x) ty (.agg vs.toArray):=W7 L h F G M
def bL {x:Operand} {t sz b o:Nat} {s:Sk} {vs:lV} {F G L:Value} (M:Az tab t=some (s,sz):=by exact rfl) (Y:eC sz 3=true:=by exact rfl) (N:s.agg=true:=by exact rfl) (O:ev l x=some (.pointer (some ⟨b,o,none⟩)):=by exact rfl) (U:Blk w b vs:=by assumption)
 (V:dW (o+sz) vs.length=true:=by exact rfl) (X:(vs.drop o).take sz=[F,G,L]:=by exact rfl):BB prog n l (fun x=>x=w) (.load t x) ty (.agg ([F,G,L]:lV).toArray):=By [F,G,L] Ad M N O (fun Z h=>by subst h;exact U) V X
def bM {x:Operand} {t sz b o:Nat} {s:Sk} {vs:lV} {F G L M:Value} (N:Az tab t=some (s,sz):=by exact rfl) (Z:eC sz 4=true:=by exact rfl) (O:s.agg=true:=by exact rfl) (U:ev l x=some (.pointer (some ⟨b,o,none⟩)):=by exact rfl) (V:Blk w b vs:=by assumption)
 (X:dW (o+sz) vs.length=true:=by exact rfl) (Y:(vs.drop o).take sz=[F,G,L,M]:=by exact rfl):BB prog n l (fun x=>x=w) (.load t x) ty (.agg ([F,G,L,M]:lV).toArray):=By [F,G,L,M] Ad N O U (fun wz h=>by subst h;exact V) X Y
def bN {x:Operand} {t sz b o:Nat} {s:Sk} {vs:lV} {F G L M N:Value} (O:Az tab t=some (s,sz):=by exact rfl) (hz:eC sz 5=true:=by exact rfl) (U:s.agg=true:=by exact rfl) (V:ev l x=some (.pointer (some ⟨b,o,none⟩)):=by exact rfl) (X:Blk w b vs:=by assumption)
 (Y:dW (o+sz) vs.length=true:=by exact rfl) (Z:(vs.drop o).take sz=[F,G,L,M,N]:=by exact rfl):BB prog n l (fun x=>x=w) (.load t x) ty (.agg ([F,G,L,M,N]:lV).toArray):=By [F,G,L,M,N] Ad O U V (fun wz h=>by subst h;exact X) Y Z
def bO {x:Operand} {t sz b o:Nat} {s:Sk} {vs:lV} {F G L M N O:Value} (U:Az tab t=some (s,sz):=by exact rfl) (hz:eC sz 6=true:=by exact rfl) (V:s.agg=true:=by exact rfl) (X:ev l x=some (.pointer (some ⟨b,o,none⟩)):=by exact rfl) (Y:Blk w b vs:=by assumption)
 (Z:dW (o+sz) vs.length=true:=by exact rfl) (he:(vs.drop o).take sz=[F,G,L,M,N,O]:=by exact rfl):BB prog n l (fun x=>x=w) (.load t x) ty (.agg ([F,G,L,M,N,O]:lV).toArray):=By [F,G,L,M,N,O] Ad U V X (fun wz h=>by subst h;exact Y) Z he
end
def eY {w w':wD} {g g':Prop} (x:Ext w w') (k:w.heap.size<=w'.heap.size->g') [ChE w w' g g']:g:=ChE.up x (k x.size)
def eZ {S:nP} {w w':wD} {g s g':Prop} (x:Fr S w w') (k:w.heap.size<=w'.heap.size->g') [ChF S w w' g s g'] (h:s:=by (repeat' apply And.intro)<;>first|exact trivial|omega|(simp only;omega)|exact fun k F=>bW F|exact fun b G h=>h (bW G)|exact fun k F=>bW (fun h=>F (bW h))|exact fun h=>h (bX ⟨by omega,by omega⟩)|exact fun h=>h (bW (bX ⟨by omega,by omega⟩))):g:=ChF.up x h (k x.size)
def sB {m l:Sl} (h:U3 m l:=by repeat (first|exact Cy|refine AQ rfl ?_)):U3 m l:=h
structure Hd (p:Prop):Prop where
 out:p
instance {S:nP} {w w':wD} {l:List Nd} {a:oA}:LfE w w' (rowSits S w l a) (rowSits S w' l a):=⟨fun x h=>Bk.rowSits.ext h x⟩
instance {S:nP} {w w':wD} {t:Nd} {a:oA}:LfE w w' (t.sits S w a) (t.sits S w' a):=⟨fun x h=>Bk.Nd.sits.ext h x⟩
instance {S T:nP} {w w':wD} {l:List Nd} {a:oA}:LfF T w w' (rowSits S w l a) (∀b,S b -> ¬T b) (rowSits S w' l a):=⟨fun x s h=>Bk.rowSits.fr h x s⟩
instance {S T:nP} {w w':wD} {t:Nd} {a:oA}:LfF T w w' (t.sits S w a) (∀b,S b -> ¬T b) (t.sits S w' a):=⟨fun x s h=>Bk.Nd.sits.fr h x s⟩
instance {w w':wD} {b:Nat} {vs:lV}:LfE w w' (Blk w b vs) (Blk w' b vs):=⟨fun x h=>Bk.Blk.ext h x⟩
instance {S:nP} {w w':wD} {b:Nat} {vs:lV}:LfF S w w' (Blk w b vs) (¬S b) (Blk w' b vs):=⟨fun x s h=>Bk.Blk.fr h x s⟩
instance {w w':wD} {p:Addr} {vs:lV}:LfE w w' (Row w p vs) (Row w' p vs):=⟨fun x h=>Bk.Row.ext h x⟩
instance {S:nP} {w w':wD} {p:Addr} {vs:lV}:LfF S w w' (Row w p vs) (¬S p.block) (Row w' p vs):=⟨fun x s h=>Bk.Row.fr h x s⟩
instance {w w':wD} {b:Nat} {vs:lV} {T:TypeId}:LfE w w' (TB w b vs T) (TB w' b vs T):=⟨fun x h=>Bk.TB.ext h x⟩
instance {w w':wD} {b e sz n:Nat} {v:Value} {cs:lV}:LfE w w' (Own w b e sz v n cs) (Own w' b e sz v n cs):=⟨fun x h=>Bk.Own.ext h x⟩
instance {S:nP} {w w':wD} {b e sz n:Nat} {v:Value} {cs:lV}:LfF S w w' (Own w b e sz v n cs) (∀k,v.ownBlock=some k -> ¬S k) (Own w' b e sz v n cs):=⟨fun x s h=>Bk.Own.fr h x s⟩
instance {w w':wD} {r:Nat} {kvs:List (lB×Value)}:LfE w w' (MapIs w r kvs) (MapIs w' r kvs):=⟨fun x h=>Bk.MapIs.ext h x⟩
instance {S:nP} {w w':wD} {r:Nat} {kvs:List (lB×Value)}:LfF S w w' (MapIs w r kvs) (¬S r) (MapIs w' r kvs):=⟨fun x s h=>Bk.MapIs.fr h x s⟩
instance {a b c:wD}:LfE b c (Ext a b) (Ext a c):=⟨fun x h=>Bk.Ext.ext h x⟩
instance {S:nP} {a b c:wD}:LfE b c (Fr S a b) (Fr S a c):=⟨fun x h=>Bk.Fr.ext h x⟩
instance {S:nP} {a b c:wD}:LfF S b c (Ext a b) (∀k,S k->a.heap.size<=k) (Ext a c):=⟨fun x s h=>Bk.Ext.fr h x s⟩
instance {S T:nP} {a b c:wD}:LfF S b c (Fr T a b) (∀k,S k->T k\/a.heap.size<=k) (Fr T a c):=⟨fun x s h=>Bk.Fr.fr h x s⟩
instance {S:nP} {w w':wD} {b:Nat} {vs:lV} {T:TypeId}:LfF S w w' (TB w b vs T) (¬S b) (TB w' b vs T):=⟨fun x s h=>Bk.TB.fr h x s⟩
def eK {A B:Prop} (a:A) (h:Hd A->B:=by
 intro a
 repeat (first
  | refine cS ?_|refine cN ?_|refine cT ?_|refine C1 Mv ?_|refine C1 Pa ?_|refine C1 Hu ?_|refine C1 bM ?_|refine C1 bO ?_|refine C1 bL ?_|refine C1 bN ?_|refine C1 bJ ?_|refine C1 bK ?_|refine C1 Pg ?_|refine C1 Pf ?_|refine C1 V1 ?_|refine C1 V8 ?_|refine C1 V2 ?_|refine C1 V3 ?_|refine C1 Pz ?_|refine C1 Py ?_|refine C1 Pn ?_|refine C1 Px ?_|refine C1 Pt ?_|refine C1 Pi ?_|refine C1 V7 ?_|refine C1 V4 ?_|refine C1 V5 ?_|refine C1 V6 ?_|refine C1 V9 ?_
  | refine Ai ?_|refine Av ?_|refine Am ?_|refine Ag ?_|refine Ao ?_|refine AH ?_|refine A8 ?_|refine BQ ?_|refine Eg ?_|refine AN ?_|refine Af ?_|refine Aj ?_|refine Ak ?_
  | refine U4 ?_|refine Ph ?_|refine Cb rfl ?_|refine BD rfl ?_|refine Np ?_|refine Ve ?_|refine Ds ?_|refine Vf ?_
  | refine Y4 ?_|refine Ga ?_|refine Gb ?_|refine Ry ?_|refine Bh rfl rfl rfl (rfl) ?_|refine Bm rfl rfl rfl (rfl) rfl ?_|refine Rx ?_|refine aT ?_|refine Vh ?_|refine Y5 ?_|refine Vg ?_|refine EB ?_|refine bI ?_|refine aQ ?_
  | refine C1 (B0 rfl rfl rfl) ?_|refine C1 (B6 rfl rfl rfl) ?_|refine C1 Rw ?_|refine C1 Rk ?_|refine C1 Y3 ?_|refine C1 ZS ?_|refine C1 SG ?_|refine C1 Jq ?_)
 exact a.out):B:=h ⟨a⟩
section
variable {P:Program} {n d i K:Nat} {ops:Array Oper} {Q:Exit->Act->wD->Prop} {r:Sc} {l:Sl} {w:wD} {ty:TypeId} {pos:String} {after:Array Edge} {S:wD->Prop}
def eD {x:Operand} {t sz b o:Nat} {s:Sk} {vs:lV} {v:Value} {w0:wD} (h:Az tab t=some (s,sz):=by exact rfl) (F:s.agg=false:=by exact rfl) (G:ev l x=some (.pointer (some ⟨b,o,none⟩)):=by exact rfl) (L:Blk w0 b vs:=by assumption) (M:vs[o]? = some v:=by exact rfl) :
 BB prog n l (fun N=>Ext w0 N) (.load t x) ty v:=Db L h F G M
def eN {op:Op} {v:Value} {j dj:Nat} {h b:Bool} (F:ops.toList[i]? = some ⟨some d,op,ty,pos,after,some (j,h)⟩) (G:BB P n l S op ty v) (k:TW P n ops Q S K r ((d,v)::l) w) (L:BM ops j=some dj:=by exact rfl) (M:cV dj n=true:=by exact rfl) (N:look l dj=some (.bool b):=by exact rfl) (O:(b==h)=true:=by first|exact Cq ‹_› | exact GD ‹_› | rfl|exact Cq (by decide)|exact GD (by decide)|exact Cq (by omega)|exact GD (by omega)) (U:cV d n=true:=by exact rfl) :
 TW P n ops Q S K (.pure i r) l w:=Dm F L M N O G U k
def eM {op:Op} {j dj:Nat} {h b:Bool} (F:ops.toList[i]? = some ⟨some d,op,ty,pos,after,some (j,h)⟩) (k:TW P n ops Q S K r ((d,undef)::l) w) (G:BM ops j=some dj:=by exact rfl) (L:cV dj n=true:=by exact rfl) (M:look l dj=some (.bool b):=by exact rfl) (N:(b==h)=false:=by first|exact FP ‹_› | exact FO ‹_› | rfl|exact FP (by decide)|exact FO (by decide)|exact FP (by omega)|exact FO (by omega)) (O:cV d n=true:=by exact rfl) :
 TW P n ops Q S K (.pure i r) l w:=Dq F G L M N O k
end
def eT {A B:Prop} (a:A) (h:Hd A->B:=by
 intro a
 repeat (first
  | refine Tq rfl Mv ?_|refine Tq rfl eD ?_|refine Tq rfl Pg ?_|refine Tq rfl Pf ?_|refine Tq rfl Pn ?_|refine Tq rfl V1 ?_|refine Tq rfl V8 ?_|refine Tq rfl V2 ?_|refine Tq rfl V3 ?_|refine Tq rfl Pz ?_|refine Tq rfl Py ?_|refine Tq rfl Px ?_|refine Tq rfl Pt ?_|refine Tq rfl Pa ?_|refine Tq rfl Pi ?_|refine Tq rfl V7 ?_|refine Tq rfl V4 ?_|refine Tq rfl V5 ?_|refine Tq rfl V6 ?_|refine Tq rfl V9 ?_|refine Tq rfl (B0 rfl rfl rfl) ?_|refine Tq rfl (B6 rfl rfl rfl) ?_|refine Tq rfl Rw ?_|refine Tq rfl Rk ?_|refine Tq rfl Y3 ?_|refine Tq rfl ZS ?_|refine Tq rfl SG ?_|refine Tq rfl Jq ?_
  | refine eN rfl Mv ?_|refine eN rfl eD ?_|refine eN rfl Pg ?_|refine eN rfl Pf ?_|refine eN rfl Pn ?_|refine eN rfl V1 ?_|refine eN rfl V8 ?_|refine eN rfl V2 ?_|refine eN rfl V3 ?_|refine eN rfl Pz ?_|refine eN rfl Py ?_|refine eN rfl Px ?_|refine eN rfl Pt ?_|refine eN rfl Pa ?_|refine eN rfl Pi ?_|refine eN rfl V7 ?_|refine eN rfl V4 ?_|refine eN rfl V5 ?_|refine eN rfl V6 ?_|refine eN rfl V9 ?_|refine eN rfl (B0 rfl rfl rfl) ?_|refine eN rfl (B6 rfl rfl rfl) ?_|refine eN rfl Rw ?_|refine eN rfl Rk ?_|refine eN rfl Y3 ?_|refine eN rfl ZS ?_|refine eN rfl SG ?_|refine eN rfl Jq ?_
  | refine eM rfl ?_)
 exact a.out):B:=h ⟨a⟩
section
variable {P:Program} {n d:Nat} {ops:Array Oper} {Q:Exit->Act->wD->Prop} {rest:List Oper} {l:Sl} {w:wD} {ty:TypeId} {pos:String} {after:Array Edge} {S:wD->Prop} {x:Operand} {t sz b:Nat} {s:Sk} {vs:lV}
def xS {e h len:Nat} {G:Sk} {zs:lV} {ps:List (Nat×Operand)} (cs:lV) (L:Az tab t=some (.slice e,sz):=by exact rfl) (M:Az tab e=some (G,h):=by exact rfl) (N:Da zt e=some zs:=by exact rfl) (O:GX l 0 ps=some vs:=by exact rfl) (U:vs.length=len:=by exact rfl)
 (V:vs.all (fun v=>eC v.cells.size h)=true:=by exact rfl) (X:dW (len*h) 10000=true:=by exact rfl) (F:cV 0 (len*h)=true:=by exact rfl) (Y:(vs.map (·.cells.toList)).flatten=cs:=by exact rfl):B5 prog n l (.buildSlice t len ps.toArray) ty w (Ok w len cs e):=Dn cs Ad CY L M N O U V X F Y
def xB {F:List (Nat×Nat)} {xs:List (Nat×Operand)} {ps:List (Nat×Value)} {G:List (Nat×Nat×lV)} {zs:lV} (h:lV) (L:Az tab t=some (.struct F,sz):=by exact rfl) (M:Da zt t=some zs:=by exact rfl) (N:I2 tab F l xs=some (ps,G):=by exact rfl) (O:IR G zs=some h:=by exact rfl) :
 BB prog n l S (.build t xs.toArray) ty (.agg h.toArray):=CA h Ad CY L M N O
def xR {fn:Func} {R:Ending->wD->Prop} {v:Value} (F:R (.returned v) w) (h:fn.results = #[.tmp t]:=by exact rfl) (G:look l t=some v:=by exact rfl):QW n (bodyPost P fn R) .ret l w:=AM h G F
def xT {fn:Func} {R:Ending->wD->Prop} {u:Nat} {v x:Value} (F:R (.returned (.tuple #[v,x])) w) (h:fn.results = #[.tmp t,.tmp u]:=by exact rfl) (G:look l t=some v:=by exact rfl) (L:look l u=some x:=by exact rfl):QW n (bodyPost P fn R) .ret l w:=Be h G L F
def xC {fn:Func} {R:Ending->wD->Prop} {ty:Nat} (F:Blk w b vs) (G:R (.returned (.agg vs.toArray)) w) (h:fn.results = #[.cell t ty]:=by exact rfl) (L:Az tab ty=some (s,sz):=by exact rfl) (M:s.agg=true:=by exact rfl) (N:look l t=some (.pointer (some ⟨b,0,none⟩)):=by exact rfl) (O:vs.length=sz:=by exact rfl):QW n (bodyPost prog fn R) .ret l w:=EG h Ad L M N F O G
def xA (vs:lV) (k : ∀b w1,New w w1 b vs->LW prog n ops Q rest ((d,.pointer (some ⟨b,0,none⟩))::l) w1) (h:Da zt t=some vs:=by exact rfl) (F:cV d n=true:=by exact rfl):LW prog n ops Q (⟨some d,.alloc t,ty,pos,after,none⟩::rest) l w:=Iv vs CY h F k
def xL {o:Nat} (us:lV) (h : ∀w,S w->Blk w b vs) (F:Az tab t=some (s,sz):=by exact rfl) (G:s.agg=true:=by exact rfl) (L:ev l x=some (.pointer (some ⟨b,o,none⟩)):=by exact rfl) (M:dW (o+sz) vs.length=true:=by exact rfl) (N:(vs.drop o).take sz=us:=by exact rfl) :
 BB prog n l S (.load t x) ty (.agg us.toArray):=By us Ad F G L h M N
def xD {p:Addr} {v:Value} (h : ∀w,S w->w.cell? p=some v) (F:Az tab t=some (s,sz):=by exact rfl) (G:s.agg=false:=by exact rfl) (L:ev l x=some (.pointer (some p)):=by exact rfl):BB prog n l S (.load t x) ty v:=An Ad F G L h
end
section
variable {P:Program} {n d i K:Nat} {ops:Array Oper} {Q:Exit->Act->wD->Prop} {x:Sc} {l:Sl} {w:wD} {ty:TypeId} {pos:String} {after:Array Edge} {S:wD->Prop}
def tC {f:FuncId} {xs:List Operand} {tys:Array TypeId} {vs:lV} {R:Ending->wD->Prop} (G:ops.toList[i]? = some ⟨some d,.call ⟨.value (.func f),xs.toArray,tys⟩,ty,pos,after,none⟩) (F:evs l xs=some vs) (C:Calls P f vs.toArray w R)
 (k : ∀v w1,ZM R (some v) w1->S w1/\TW P n ops Q S K x ((d,v)::l) w1) (L:CO P f=true:=by kernel_rfl) (M : ∀e w1,R e w1 -> ∃v,e = .returned v:=by first|exact fun _ _ h=>h.ret|exact fun _ _ h=>⟨_,h.1⟩) (N:cV d n=true:=by exact rfl):TW P n ops Q S K (.fork i x .none) l w:=
 Ax G (AU L F C M) N k (fun _ h=>h) Aw
end
def Ae {q:Prop} (h:q:=by assumption):q:=h
def Ab {q:Prop} (h:q:=by omega):q:=h
def AY {q:Prop} (h:q:=by decide):q:=h
def AR {q:Prop} (h:q:=by simp):q:=h
def aFh.{u} {α:Sort u} {p:α->Prop} : ∀a,p a->p a:=fun _ h=>h
def bS {w w':wD} (h:Ext w w':=by repeat (first|exact Ext.refl _|assumption|refine Ext.alloc ?_ _|refine Ext.drew ?_|refine Ext.trans ?_ ‹_›)):Ext w w':=h
def A9 {q:Prop} (h:q:=by kernel_rfl):q:=h
def TC (A:Ending->wD->Prop) (B:List PanicEntry->wD->Prop):Ending->wD->Prop:=fun e w=>A e w \/ ∃c,e = .panicked c/\B c w
section
variable {P:Program} {n:Nat} {l:Sl} {w:wD} {ty:TypeId} {Q:Exit->Act->wD->Prop} {ops:Array Oper} {rest:List Oper} {pos:String} {after:Array Edge} {A:Ending->wD->Prop} {B:List PanicEntry->wD->Prop}
def AE {K:Act->wD->Prop} {c:List PanicEntry} (h:QW n Q (.panic c) l w):QW n (Exit.then K Q) (.panic c) l w:=by unfold QW at h ⊢;exact h
def AS {i:Nat} {c:List PanicEntry} (h:QW n Q (.panic c) l w):QW n (Exit.inBlock i Q) (.panic c) l w:=by unfold QW at h ⊢;exact h
def AB {fn:Func} {R:Ending->wD->Prop} {c:List PanicEntry} (h:R (.panicked c) w):QW n (bodyPost P fn R) (.panic c) l w:=by unfold QW;exact fun _ F=>⟨F.defers,h⟩
def Vi {x:Operand} {t:TypeId} {v:Value} {d:Option Nat} (G:ev l x=some (.iface t v)) (h:QW n Q (.panic [{ v:=.iface t v,recovered:=false }]) l w):LW P n ops Q (⟨d,.panic x,ty,pos,after,none⟩::rest) l w:=by
 unfold LW;unfold QW at h;intro a F;unfold wpList;rw [AG (Bo rfl)];left;have e:(execOp a.eval ⟨d,.panic x,ty,pos,after,none⟩).run P w = .halt (.panic (.iface t v)) w:=by
  simp [execOp,F.ev G,Instr.panic,goPanic,cU,Sem.run,cG]
 unfold eL;rw [e];exact h a F
def Nq (P:Program) (n:Nat) (l:Sl) (op:Op) (ty:TypeId) (w:wD) (A:Ending->wD->Prop) (B:List PanicEntry->wD->Prop):Prop:=
 ∀a dst pos after g (next:Act->wD->Prop) (Q:Exit->Act->wD->Prop),Env n l a->(∀v w',A (.returned v) w'->next (a.put dst v) w')->(∀c w',B c w'->Q (.panic c) a w')->(⟨dst,op,ty,pos,after,g⟩:Oper).wp P a w next Q
def AK {f:FuncId} {xs:List Operand} {tys:Array TypeId} {vs:lV} (hb:CO P f=true) (hxs:evs l xs=some vs) (C:Calls P f vs.toArray w (TC A B))
 (hA : ∀e w1,A e w1 -> ∃v,e = .returned v):Nq P n l (.call ⟨.value (.func f),xs.toArray,tys⟩) ty w A B:=fun a dst pos after g next Q ha hn hp=>by
 have hargs:xs.map a.eval=vs:=ha.evs hxs;have e:(execOp a.eval ⟨dst,.call ⟨.value (.func f),xs.toArray,tys⟩,ty,pos,after,g⟩).run P w = .ok (.enter f vs.toArray) w:=by
  simp only [execOp,resolve,Act.eval,Deferred.ofValue,cU,dC,cG,invoke];rw [D2 hb];simp [<-hargs]
 unfold eL;rw [e];refine dY C fun e w1 h=>?_
 rcases h with h|⟨c,rfl,h⟩
 . obtain ⟨v,rfl⟩:=hA e w1 h;exact hn v w1 h
 . exact hp c w1 h
def A3 {op:Op} {d:Nat} (G:Nq P n l op ty w A B) (M:cV d n=true) (k : ∀v w1,A (.returned v) w1->LW P n ops Q rest ((d,v)::l) w1) (L : ∀c w1,B c w1->QW n Q (.panic c) l w1) :
 LW P n ops Q (⟨some d,op,ty,pos,after,none⟩::rest) l w:=by
 unfold LW at k ⊢;unfold QW at L;intro a F;unfold wpList;rw [AG (Bo rfl)];left;unfold Nq at G;exact G a _ _ _ _ _ _ F (fun v w1 h=>k v w1 h _ (F.put M v)) (fun c w1 h=>L c w1 h a F)
def Pq {S:wD->Prop} {K i d:Nat} {x r:Sc} {op:Op} (O:ops.toList[i]? = some ⟨some d,op,ty,pos,after,none⟩) (L:Nq P n l op ty w A B) (U:cV d n=true)
 (k : ∀v w1,A (.returned v) w1->S w1/\TW P n ops Q S K x ((d,v)::l) w1) (M : ∀c w1,B c w1->QW n Q (.panic c) l w1) (N:TW P n ops Q S K r l w):TW P n ops Q S K (.fork i x r) l w:=by
 unfold TW at k N ⊢;unfold QW at M;unfold Nq at L;intro a F;refine ⟨?_,N a F⟩;have G:ops[i]? = some ⟨some d,op,ty,pos,after,none⟩:=by simpa using O
 unfold wpOp;rw [G];simp only;rw [AG (Bo rfl)];left;exact L a _ _ _ _ _ _ F (fun v w1 h=>⟨(k v w1 h).1,(k v w1 h).2 _ (F.put U v)⟩) (fun c w1 h=>M c w1 h a F)
def Lj (P:Program) (t:TypeId):Bool:=match P.underlying t with
 | some (.struct _)=>true
 | _=>false
def IU {t:TypeId} (h:Lj P t=true) : ∃F,P.underlying t=some (.struct F):=by
 unfold Lj at h;split at h
 . exact ⟨_,Ae⟩
 . cases h
def TD {S:wD->Prop} {x:Operand} {t:TypeId} {v:Value} (h:Lj P t=true) (F:ev l x=some v):BB P n l S (.makeInterface t x) ty (.iface t v):=by
 obtain ⟨M,h⟩:=IU h;unfold BB;intro a w G pos after g L _;simp [execOp,L.ev F,Instr.makeInterface,AF h,cG]
def Rz {S:wD->Prop} {x:Operand} {t u:TypeId} {v:Value} (h:Lj P t=true) (F:ev l x=some (.iface t v)):BB P n l S (.typeAssert x u t true) ty (.tuple #[v,.bool true]):=by
 obtain ⟨M,h⟩:=IU h;unfold BB;intro a w G pos after g L _;simp [execOp,L.ev F,Instr.typeAssert,AF h,cG]
def EY {S:wD->Prop} {f:Fn} {xs cs:List Operand} {us vs:lV} (F:evs l xs=some us) (G:evs l cs=some vs):BB P n l S (.makeFunc f xs.toArray cs.toArray) ty (.func f us.toArray vs.toArray):=by
 unfold BB;intro a w L pos after g h _;have e:=h.evs F;have M:=h.evs G;simp [execOp,Instr.makeFunc,e,M]
variable {tab:Tab}
def JB {S:wD->Prop} {x:Operand} {t t' sz:Nat} {f:Fn} {us vs:Array Value} (T:TabOk P tab) (F:Az tab t=some (.func,sz)) (G:ev l x=some (.func f us vs)):BB P n l S (.binOp .eql t x (.const .nilFunc) t') ty (.bool false):=by
 obtain ⟨a,b,c,L⟩:=(T _ _ _ F).under;unfold BB;intro h w M pos after g N _;have O:(eqGuard .eql t x (.const .nilFunc) (.func f us vs) .nilFunc).run P w = .ok () w:=by unfold eqGuard;simp
 have U:(Op.equal t (.func f us vs) .nilFunc).run P w = .ok false w:=by
  show (Op.equalIn (9999+1) t (.func f us vs) .nilFunc).run P w=_;unfold Op.equalIn;simp [AF L,cG]
 have V:h.eval (.const .nilFunc) = .nilFunc:=rfl;simp [execOp,N.ev G,V,O,U,binOp]
def A2 {S:wD->Prop} {x:Operand} {t t' sz e:Nat} {q:Addr} (T:TabOk P tab) (F:Az tab t=some (.ptr e,sz)) (G:ev l x=some (.pointer (some q))):BB P n l S (.binOp .eql t x (.const (.pointer none)) t') ty (.bool false):=by
 have L:=(T _ _ _ F).under;unfold BB;intro h w M pos after g N _;have O:(eqGuard .eql t x (.const (.pointer none)) (.pointer (some q)) (.pointer none)).run P w = .ok () w:=by unfold eqGuard;simp
 have U:(Op.equal t (.pointer (some q)) (.pointer none)).run P w = .ok false w:=by
  show (Op.equalIn (9999+1) t (.pointer (some q)) (.pointer none)).run P w=_;unfold Op.equalIn;simp [AF L,cG]
 have V:h.eval (.const (.pointer none)) = .pointer none:=rfl;simp [execOp,N.ev G,V,O,U,binOp]
def Vj {S:wD->Prop} {x:Operand} {t t' sz u:Nat} {v:Value} (T:TabOk P tab) (F:Az tab t=some (.iface,sz)) (G:ev l x=some (.iface u v)):BB P n l S (.binOp .eql t x (.const .nilIface) t') ty (.bool false):=by
 obtain ⟨a,L⟩:=(T _ _ _ F).under;unfold BB;intro h w M pos after g N _;have O:(eqGuard .eql t x (.const .nilIface) (.iface u v) .nilIface).run P w = .ok () w:=by unfold eqGuard;simp
 have U:(Op.equal t (.iface u v) .nilIface).run P w = .ok false w:=by
  show (Op.equalIn (9999+1) t (.iface u v) .nilIface).run P w=_;unfold Op.equalIn;simp [AF L,cG]
 have V:h.eval (.const .nilIface) = .nilIface:=rfl;simp [execOp,N.ev G,V,O,U,binOp]
def TE {S:wD->Prop} {x:Operand} {t t' sz:Nat} (T:TabOk P tab) (F:Az tab t=some (.iface,sz)) (G:ev l x=some .nilIface):BB P n l S (.binOp .eql t x (.const .nilIface) t') ty (.bool true):=by
 obtain ⟨a,L⟩:=(T _ _ _ F).under;unfold BB;intro h w M pos after g N _;have O:(eqGuard .eql t x (.const .nilIface) .nilIface .nilIface).run P w = .ok () w:=by unfold eqGuard;simp
 have U:(Op.equal t .nilIface .nilIface).run P w = .ok true w:=by
  show (Op.equalIn (9999+1) t .nilIface .nilIface).run P w=_;unfold Op.equalIn;simp [AF L,cG]
 have V:h.eval (.const .nilIface) = .nilIface:=rfl;simp [execOp,N.ev G,V,O,U,binOp]
end
def De (late:List Nat) (i:Nat):Bool:= !(late.contains i)
def Oq (ops:Array Oper) (late free0:List Nat) (i:Nat):Prop:= ∀(listed:Array Bool) (j:Nat) (o:Oper),DC ops listed->(∀k∈free0,listed.getD k false=true)->listed.getD j true=false->De late j=false->ops[j]? = some o->(∀e∈o.after,dT .any e=true->listed.getD e.on false=true)->listed.getD i false=true
def Os (ops:Array Oper) (late free0:List Nat) (j0:Nat):Bool:=((List.range ops.size).all fun i=> !(De late i)||(List.range' (i+1) (ops.size-(i+1))).any fun m=>(eC m j0||De late m)&&Jy ops m i)&&late.all fun j=>free0.contains j||(eC j j0||Jy ops j j0)
def LB {ops:Array Oper} {late free0:List Nat} {X:Nat} (h:Os ops late free0 X=true) {i:Nat} (hi:i<ops.size) (hE:De late i=true):Oq ops late free0 i:=by
 simp only [Os,bZ,List.all_eq_true,List.mem_range] at h;obtain ⟨h1,h2⟩:=h;intro F j o Y hF O hj ho M;have ad:j∈late:=by
  unfold De at hj;simpa using hj
 have G:=h2 j ad;have G:(eC j X||Jy ops j X)=true:=by
  rw [Bool.or_eq_true] at G;rcases G with L|L
  . exfalso;have N:=hF j (by simpa using L);rcases cO j F.size with h'|h'
    . simp [h'] at N O;rw [N] at O;cases O
    . simp [dX h'] at N
  . exact L
 simp only [Bool.or_eq_true] at G;have U : ∀o0,ops[X]? = some o0 -> ∀e∈o0.after,dT .any e=true->F.getD e.on false=true:=by
  intro o0 V;rcases G with G|G
  . have ae:=dO G;subst ae;rw [ho] at V;obtain rfl:=cD V;exact M
  . obtain ⟨oj,e',Z,af,ag,aa⟩:=EW G;rw [ho] at Z;obtain rfl:=cD Z;have N:=M e' af ag;rw [aa] at N;exact Y X o0 V N
 have key : ∀d i,ops.size-i<=d->i<ops.size->De late i=true->F.getD i false=true:=by
  intro d
  induction d with
  | zero=>intro i hd hi;omega
  | succ d ih=>
   intro i hd hi hE;have hg:=h1 i hi;rw [hE] at hg;simp only [Bool.not_true,Bool.false_or,List.any_eq_true,List.mem_range'_1,bZ,Bool.or_eq_true] at hg;obtain ⟨m,hm,L,hw⟩:=hg;obtain ⟨om,e,ab,he,hb,ac⟩:=EW hw;rcases L with L|L
   . have ah:=dO L;subst ah;have:=U om ab e he hb;rwa [ac] at this
   . have N:=ih m Ab Ab L;have:=Y m om ab N e he hb;rwa [ac] at this
 exact key _ i (cH _) hi hE
section
variable {P:Program} {ops:Array Oper} {Q:Exit->Act->wD->Prop} {S S2:wD->Prop} {late free0:List Nat} {K:Nat}
def Kn (P:Program) (ops:Array Oper) (Q:Exit->Act->wD->Prop) (S S2:wD->Prop) (late:List Nat) (K:Nat):Nat->Array Bool->Act->wD->Prop
 | 0,listed,a,w=>cZ .any ops listed=[]/\Q .normal a w
 | fuel+1,listed,a,w=>
  (cZ .any ops listed=[]->Q .normal a w) /\
  ∀i∈cZ .any ops listed,wpOp P ops Q i (fun a' w'=>(De late i=true->S w')/\(i<K->S2 w')/\Kn P ops Q S S2 late K fuel (listed.setIfInBounds i true) a' w') a w
def LC : ∀(F:Nat) (G:Array Bool) (a:Act) (w:wD),Kn P ops Q S S2 late K F G a w->wpAny P .any ops Q F G a w
 | 0,_,_,_,h=>h
 | F+1,_,_,_,h=>⟨h.1,fun i L=>wpOp_mono (fun M w' N=>LC F _ M w' N.2.2) (h.2 i L)⟩
def M2 {F:Array Bool} {j k:Nat} (h:F.getD k false=true):(F.setIfInBounds j true).getD k false=true:=by
 by_cases G:j=k
 . subst G;rcases cO j F.size with L|L
   . simp [L]
   . simp [dX L] at h
 . rw [getD_set_ne false G];exact h
def JC {i:Nat} {oi:Oper} {v:Value} {T:wD->Prop} (hi:ops[i]? = some oi) (ag : ∀w,S w->S2 w) (hT:(De late i=true/\Oq ops late free0 i/\T=S)\/(De late i=false/\EX ops K i/\T=S2)) (Z : ∀(j:Nat) (o:Oper) cs b,ops[j]? = some o->o.op≠.select cs b)
 (hQ : ∀c a w,Q (.panic c) (a.put oi.dst v) w->Q (.panic c) a w) :
 ∀(G:Nat) (F:Array Bool) (a:Act) (w:wD),DC ops F->(De late i=true -> ∀k∈free0,F.getD k false=true) ->
  (∀j X,ops[j]? = some X->j≠i->F.getD j true=false->(∀e∈X.after,dT .any e=true->e.on≠i)->oi.apart ops X=true) ->
  i∈cZ .any ops F->YieldsIf P ops T oi v a->T w ->
  Kn P ops Q S S2 late K G (F.setIfInBounds i true) (a.put oi.dst v) w->Kn P ops Q S S2 late K (G+1) F a w:=by
 have ad : ∀w,T w->De late i=true->S w:=fun w h he=>by
  rcases hT with ⟨-,-,rfl⟩|⟨h0,-⟩
  . exact h
  . rw [h0] at he;cases he
 have aa : ∀w,T w->S2 w:=fun w h=>by
  rcases hT with ⟨-,-,rfl⟩|⟨-,-,rfl⟩
  . exact ag w h
  . exact h
 intro G
 induction G with
 | zero=>
  intro F a w _ _ _ hr hy hS H;refine ⟨fun h=>(by rw [h] at hr;cases hr),fun j hj=>?_⟩;by_cases L:j=i
  . subst L;exact hy.wpOp hi hS ⟨ad w hS,fun _=>aa w hS,H⟩
  . have:=ready_mono hj L;rw [H.1] at this;cases this
 | succ G ih=>
  intro F a w ab hF N hr hy hS H;refine ⟨fun h=>(by rw [h] at hr;cases hr),fun j hj=>?_⟩;by_cases L:j=i
  . subst L;exact hy.wpOp hi hS ⟨ad w hS,fun _=>aa w hS,H⟩
  . have h1:=H.2 j (ready_mono hj L);obtain ⟨O,X,U,V⟩:=mem_ready.1 hj;have M : ¬F.getD i false=true:=fun hc=>by
     have h0:=(mem_ready.1 hr).1;rcases cO i F.size with h'|h'
     . simp [h'] at h0 hc;rw [h0] at hc;cases hc
     . simp [dX h'] at hc
    have ah : ∀w',(De late j=true->S w')->(j<K->S2 w')->T w':=fun w' h' h2=>by
     rcases hT with ⟨ai,ac,rfl⟩|⟨-,ac,rfl⟩
     . cases hej:De late j
       . exact absurd (ac F j X ab (hF ai) O hej U V) M
       . exact h' hej
     . rcases cO j K with h|h
       . exact h2 h
       . exact absurd (ac F j X ab h U V) M
    have ae : ∀e∈X.after,dT .any e=true->e.on≠i:=fun e he hb aj=>M (aj▸V e he hb)
    have h2:=wpOp_putIf U (N j X U L O ae) (fun cs b=>Z i oi cs b hi) (fun cs b=>Z j X cs b U) hQ hy h1;have Y : ∀k ok,ops[k]? = some ok->k≠i->(F.setIfInBounds j true).getD k true=false ->
     (∀e∈ok.after,dT .any e=true->e.on≠i)->oi.apart ops ok=true:=fun k ok hk ak M al=>by
     refine N k ok hk ak ?_ al;by_cases af:j=k
     . subst af;exact O
     . rw [getD_set_ne true af] at M;exact M
    refine wpOp_mono (fun a' w' h3=>⟨h3.2.1,h3.2.2.1,ih (F.setIfInBounds j true) a' w' (ab.set hj) (fun hE k hk=>M2 (hF hE k hk)) Y (ready_mono hr (Ne.symm L)) h3.1 (ah w' h3.2.1 h3.2.2.1) ?_⟩) h2;rw [Array.setIfInBounds_comm _ _ L];exact h3.2.2.2
end
inductive ScE where
 | done
 | pure (i:Nat) (r:ScE)
 | free (i:Nat) (r:ScE)
 | put (i:Nat) (r:ScE)
 | tail (k:Nat)
def ScE.ok (ops:Array Oper) (late free0:List Nat) (K:Nat):ScE->Nat->Array Bool->Bool
 | .done,_,listed=>(cZ .any ops listed).isEmpty
 | .pure i r,f+1,listed=>(free0.all fun k=>listed.getD k false)&&De late i&&(cZ .any ops listed).contains i&&Region.free .any ops listed i&&ScE.ok ops late free0 K r f (listed.setIfInBounds i true)
 | .free i r,f+1,listed=> !(De late i)&&cV i K&&(cZ .any ops listed).contains i&&Region.free .any ops listed i&&ScE.ok ops late free0 K r f (listed.setIfInBounds i true)
 | .put i r,f+1,listed=> !(De late i)&&(cZ .any ops listed==[i])&&ScE.ok ops late free0 K r f (listed.setIfInBounds i true)
 | .tail k,f,listed=>dW K k&&eC (f+k) ops.size&&(List.range' k f).all (fun j=> !(De late j))&&Fv ops f k listed
 | _,_,_=>false
def HTE (P:Program) (ops:Array Oper) (Q:Exit->Act->wD->Prop) (S S2:wD->Prop):ScE->Act->wD->Prop
 | .done,a,w=>Q .normal a w
 | .pure i r,a,w=>S w /\ ∃o v,ops.toList[i]? = some o/\YieldsIf P ops S o v a/\HTE P ops Q S S2 r (a.put o.dst v) w
 | .free i r,a,w=>S2 w /\ ∃o v,ops.toList[i]? = some o/\YieldsIf P ops S2 o v a/\HTE P ops Q S S2 r (a.put o.dst v) w
 | .put i r,a,w=>wpOp P ops Q i (fun a' w'=>S2 w'/\HTE P ops Q S S2 r a' w') a w
 | .tail k,a,w=>wpList P ops Q (ops.toList.drop k) a w
def I3 {P:Program} {ops:Array Oper} {Q:Exit->Act->wD->Prop} {S S2:wD->Prop} {late:List Nat} {K:Nat} : ∀(f k:Nat) (F:Array Bool) (a:Act) (w:wD),K<=k->f+k=ops.size->(∀j,k<=j->j<k+f->De late j=false)->Fv ops f k F=true->wpList P ops Q (ops.toList.drop k) a w->Kn P ops Q S S2 late K f F a w
 | 0,k,F,a,w,X,Y,M,G,h=>by
  have:ops.toList.drop k=[]:=List.drop_eq_nil_of_le (by simp;omega);rw [this] at h;exact ⟨by simpa [Fv] using G,h⟩
 | f+1,k,F,a,w,X,Y,M,G,h=>by
  simp only [Fv,bZ,beq_iff_eq] at G;have N:k<ops.toList.length:=by simp;omega
  rw [dH N] at h;refine ⟨fun e=>absurd (G.1.symm.trans e) AR,fun i O=>?_⟩;rw [G.1] at O;simp only [List.mem_singleton] at O;subst O;have V:=M i (cH _) Ab;have L : ∀j,i+1<=j->j<i+1+f->De late j=false:=fun j h1 h2=>M j Ab Ab
  have Z:ops[i]? = some ops.toList[i]:=by simp
  unfold wpList at h;unfold wpOp;rw [Z];simp only;split
  . rename_i U;rw [AG U] at h;rcases h with h|h
    . exact bW (Oper.wp_mono (fun a' w' h'=>⟨fun e=>(by rw [V] at e;cases e),fun e=>by omega,I3 f (i+1) _ a' w' Ab Ab L G.2 h'⟩) h)
    . exact bX h
  . rename_i U;rw [As U] at h;exact ⟨fun e=>(by rw [V] at e;cases e),fun e=>by omega,I3 f (i+1) _ _ w Ab Ab L G.2 h⟩
def HTE.any {P:Program} {ops:Array Oper} {Q:Exit->Act->wD->Prop} {S S2:wD->Prop} {late free0:List Nat} {K:Nat} (O : ∀w,S w->S2 w) (M : ∀i,i<K->EX ops K i) (Y:Region.noSelect ops=true) (U : ∀i,i<ops.size->De late i=true->Oq ops late free0 i) (Z:D3 Q) :
 ∀(s:ScE) (f:Nat) (F:Array Bool) (a:Act) (w:wD),DC ops F->HTE P ops Q S S2 s a w->ScE.ok ops late free0 K s f F=true->Kn P ops Q S S2 late K f F a w
 | .done,f,F,a,w,N,h,G=>by
  have V:cZ .any ops F=[]:=by simpa [ScE.ok] using G
  cases f with
  | zero=>exact ⟨V,h⟩
  | succ f=>exact ⟨fun _=>h,by rw [V];simp⟩
 | .tail k,f,F,a,w,N,h,G=>by
  simp only [ScE.ok,bZ,List.all_eq_true,List.mem_range'_1] at G;exact I3 f k F a w (dE G.1.1.1) (dO G.1.1.2) (fun j h1 h2=>by simpa using G.1.2 j ⟨h1,h2⟩) G.2 h
 | .pure i r,0,F,a,w,N,h,G=>by simp [ScE.ok] at G
 | .pure i r,f+1,F,a,w,N,h,G=>by
  simp only [ScE.ok,bZ] at G;obtain ⟨hS,o,v,ho,hy,V⟩:=h;have X:ops[i]? = some o:=by simpa using ho
  have aa:i<ops.size:=(Array.getElem?_eq_some_iff.1 X).1;have L:i∈cZ .any ops F:=by simpa using G.1.1.2
  exact JC (T:=S) (free0:=free0) X O (bW ⟨G.1.1.1.2,U i aa G.1.1.1.2,rfl⟩) (Region.noSelect_spec Y) (fun c a w=>Z o.dst v c a w) f F a w N (fun _ k ab=>List.all_eq_true.1 G.1.1.1.1 k ab) (Region.free_spec X G.1.2) L hy hS
   (HTE.any O M Y U Z r f _ _ w (N.set L) V G.2)
 | .free i r,0,F,a,w,N,h,G=>by simp [ScE.ok] at G
 | .free i r,f+1,F,a,w,N,h,G=>by
  simp only [ScE.ok,bZ,Bool.not_eq_true'] at G;obtain ⟨hS,o,v,ho,hy,V⟩:=h;have X:ops[i]? = some o:=by simpa using ho
  have L:i∈cZ .any ops F:=by simpa using G.1.1.2
  have ac:=dE G.1.1.1.2;exact JC (T:=S2) (free0:=free0) X O (bX ⟨G.1.1.1.1,M i ac,rfl⟩) (Region.noSelect_spec Y) (fun c a w=>Z o.dst v c a w) f F a w N (fun e=>(by rw [G.1.1.1.1] at e;cases e)) (Region.free_spec X G.1.2) L hy hS
   (HTE.any O M Y U Z r f _ _ w (N.set L) V G.2)
 | .put i r,0,F,a,w,N,h,G=>by simp [ScE.ok] at G
 | .put i r,f+1,F,a,w,N,h,G=>by
  simp only [ScE.ok,bZ,Bool.not_eq_true',beq_iff_eq] at G;obtain ⟨⟨h1,h2⟩,h3⟩:=G;refine ⟨fun e=>(by rw [h2] at e;cases e),fun j hj=>?_⟩;rw [h2] at hj;simp only [List.mem_singleton] at hj;subst hj;have L:j∈cZ .any ops F:=by rw [h2];simp
  exact wpOp_mono (fun a' w' h'=>⟨fun e=>(by rw [h1] at e;cases e),fun _=>h'.1,HTE.any O M Y U Z r f _ a' w' (N.set L) h'.2 h3⟩) h
def Xl (P:Program) (n:Nat) (ops:Array Oper) (Q:Exit->Act->wD->Prop) (S S2:wD->Prop) (s:ScE) (l:Sl) (w:wD):Prop:= ∀a,Env n l a->HTE P ops Q S S2 s a w
section draws
variable {P:Program} {n:Nat} {ops:Array Oper} {Q:Exit->Act->wD->Prop} {S S2:wD->Prop} {l:Sl} {w:wD}
 {d i:Nat} {ty:TypeId} {pos:String} {after:Array Edge} {r:ScE}
def GF {Z:Nat} {F:List Oper} (S S2:wD->Prop) (late free0:List Nat) (j0 K:Nat) (s:ScE) (O : ∀w,S w->S2 w) (hm:P.follows .mixedOrders=true) (L:(Region.noSelect F.toArray&&(dW F.length K||Kk F.toArray K)&&Os F.toArray late free0 j0&&ScE.ok F.toArray late free0 K s F.length (eO F.length false))=true) (hQ:D3 Q)
 (h : ∀w1,Ext w w1->w1.heap=w.heap->Xl P n F.toArray Q S S2 s l w1):CW P n (.region Z F.toArray true) Q l w:=by
 unfold CW;intro a ha;simp only [bZ] at L;have h2:=h w.drew (Ext.refl w).drew rfl;have U:DC F.toArray (eO F.length false):=fun k o _ G=>by
  exfalso;rcases cO k F.length with V|V
  . simp [V] at G
  . simp [dX,V] at G
 have M : ∀i,i<K->EX F.toArray K i:=by
  by_cases X:K<F.toArray.size
  . have G:=L.1.1.2;simp only [Bool.or_eq_true] at G;rcases G with G|G
    . have:=dE G;simp at X;omega
    . exact Fe G X
  . intro i Y N j o _ hj ho _;have aa:j<F.toArray.size:=(Array.getElem?_eq_some_iff.1 ho).1;omega
 refine wp_region_any hm (LC (S:=S) (S2:=S2) (late:=late) (K:=K) _ _ _ _ ?_);have:=HTE.any O M L.1.1.1 (fun i Y hE=>LB L.1.2 Y hE) hQ s F.length (eO F.length false) a w.drew U (h2 a ha) L.2;simpa using this
def EH {F:List Oper} {k:Nat} (G:Lx k ops.toList=some F) (h:LW P n ops Q F l w):Xl P n ops Q S S2 (.tail k) l w:=by
 unfold LW at h;intro a L;show wpList P ops Q (ops.toList.drop k) a w;rw [GY G];exact h a L
def Ap {op:Op} {v:Value} (h:S w) (L:ops.toList[i]? = some ⟨some d,op,ty,pos,after,none⟩) (F:BB P n l S op ty v) (M:cV d n=true) (k:Xl P n ops Q S S2 r ((d,v)::l) w) :
 Xl P n ops Q S S2 (.pure i r) l w:=by
 unfold BB at F;exact fun a G=>⟨h,_,v,L,bW ⟨rfl,fun w h=>F a w _ _ _ _ G h⟩,k _ (G.put M v)⟩
def BI {op:Op} {v:Value} (h:S2 w) (L:ops.toList[i]? = some ⟨some d,op,ty,pos,after,none⟩) (F:BB P n l S2 op ty v) (M:cV d n=true) (k:Xl P n ops Q S S2 r ((d,v)::l) w) :
 Xl P n ops Q S S2 (.free i r) l w:=by
 unfold BB at F;exact fun a G=>⟨h,_,v,L,bW ⟨rfl,fun w h=>F a w _ _ _ _ G h⟩,k _ (G.put M v)⟩
def EI {op:Op} {L:Option Value->wD->Prop} (O:ops.toList[i]? = some ⟨none,op,ty,pos,after,none⟩) (M:B5 P n l op ty w L)
 (k : ∀v w1,L v w1->S2 w1/\Xl P n ops Q S S2 r l w1):Xl P n ops Q S S2 (.put i r) l w:=fun a F=>by
 unfold B5 at M;have G:ops[i]? = some ⟨none,op,ty,pos,after,none⟩:=by simpa using O
 show wpOp P ops Q i _ a w;unfold wpOp;rw [G];simp only;rw [AG (Bo rfl)];left;exact M a _ _ _ _ _ _ F (fun v w1 N=>⟨(k _ w1 N).1,(k _ w1 N).2 _ F⟩) (fun w1 h=>⟨(k _ w1 h).1,(k _ w1 h).2 _ F⟩)
end draws
end Bk
