/- Texts that the proofs of ExercisePrints need. No condition. (Part 1 of 8.) -/
import Derived.Shelf.Slices.Clone
import Derived.Shelf.Lays2
import Derived.Test.YtjkgmpljepnmiaaGreatDoorProg
import Derived.WalkKit
import Derived.Orders
import Derived.OrdersHeld
import Derived.Lib.Hide
import Derived.Laws.AppendOwn
import Derived.IntWalk
import Derived.Lib.ItoaNum
import Derived.Laws.OwnMore
import Derived.Great.BuildSlice
import Derived.Shelf.Strings.Builder1
import Derived.Shelf.Strings.Builder2
import Derived.Shelf.Strings.OnBuilder
import Derived.Shelf.Small.Strs
import Derived.Shelf.Strings.BuilderF
import Derived.Shelf.Strings.BuilderK
import Derived.Shelf.Strings.Builder2Cap
import Derived.Shelf.Strconv.Atoi
import Derived.Shelf.Strconv.Itoa0
import Derived.Shelf.Strconv.Itoa1
import Derived.Shelf.LaysM
import Derived.Shelf.Strconv.Itoa2
import Derived.Shelf.Strconv.Itoa3
import Derived.Shelf.Strconv.AtoiErrFast
import Derived.Shelf.Strconv.ParseIntEmpty
import Derived.Shelf.Strconv.AtoiFail
import Derived.Shelf.Strconv.Clone
import Derived.Shelf.Strconv.SyntaxError
import Derived.Shelf.LaysC
import Derived.Shelf.Strconv.ToError
import Derived.Shelf.Strconv.Lower
import Derived.Shelf.Strconv.ParseUint10
import Derived.Shelf.Strconv.ParseUint10Empty
import Derived.Shelf.Strconv.ParseUint10Any
import Derived.Shelf.Strconv.ParseInt10
import Derived.Shelf.Strconv.AtoiLong
import Derived.Shelf.Strconv.AtoiInnerAll
import Derived.Shelf.Strconv.RangeError
import Derived.Shelf.Strconv.ToErrorRange
import Derived.Shelf.Strconv.AtoiAll
import Derived.Shelf.Strconv.ErrVarAll
import Derived.Shelf.Strings.Search1
import Derived.Shelf.Strings.Search2
import Derived.Shelf.Strings.Search3
import Derived.Shelf.Strings.Cut
import Derived.Shelf.Strings.Count
import Derived.Shelf.Strings.Shaped
import Derived.Shelf.Strings.Prefix
import Derived.Shelf.Strings.Split
import Derived.Shelf.Unicode.DecodeSlow
import Derived.Shelf.Strings.BuilderCap
import Derived.Ground.Names2Prog
import Derived.Lib.LazyBuf
import Derived.Shelf.Spec.SlicesInsertGrow
import Derived.RangeFuncRecord
import Derived.RangeFuncLeaves
import Derived.RangeFuncSeq
import Derived.OrdersIn
import Derived.TacticsIn
import Derived.Lib.AtoiErrMem
import Derived.Lib.ConvBytes
import Derived.Lib.AtoiAll
import Derived.ArgAppend
import Derived.Laws.StructEq
import Derived.Sort.Grow
import Derived.Lib.AppendIntMem
import Derived.Deep.RegionHeld3
import Derived.Deep.DeepCutAuto
import Derived.Lib.ItoaLen
import Derived.Lib.AtoiAllCases
import Derived.Lib.IndexLaws
import Derived.Lib.SplitLaws
import Derived.Lib.ItoaMem
import Derived.ChangeArms
import Derived.Test.YtjkgmpljepnmiaaGreatDoorRows
import Derived.Lib.LaidTab
import Derived.FnData
import Derived.Shelf.Vars
import Derived.LaidLaws
import Derived.ProofKit
import Derived.OpenShut
import Derived.Deep.DeepHandedRow
import Derived.ChangeMaps5
set_option linter.unusedSimpArgs false
set_option linter.unusedVariables false
set_option linter.defProp false
set_option maxRecDepth 100000
set_option maxHeartbeats 4000000
namespace Bk
abbrev wD := Go.World
abbrev lB := List UInt8
abbrev lV := List Go.Value
abbrev oA := Option Go.Addr
abbrev nP := Nat → Prop
end Bk
open Go.Proofs.Tryz
open List renaming length_append->aU,length_cons->aV,getElem_cons_succ->aW,length_nil->aX,getElem?_eq_getElem->aY,set_cons_zero->aZ,getElem_mem->bD,take_succ_eq_append_getElem->bE,take_length->bH,mem_cons->bR,getElem?_eq_none->bS,not_mem_nil->bX,replicate->cB,append_assoc->cF,length_take->cH,flatten_cons->cI,take_append_drop->cL,drop_eq_getElem_cons->cW,all_eq_true->cX,getD_eq_getElem?_getD->dC,getElem?_append_left->dD,take_succ_cons->dE,mem_singleton->dG
open Go.Lib renaming hid->bA,indexByte->dA
open Bool renaming and_eq_true->bB,false_eq_true->dH
open Or renaming inl->bC,inr->bF
open Go.Result renaming andThen->bG
open Nat renaming zero_le->bI,le_refl->bJ,blt->bM,lt_or_ge->bQ,le_trans->cD,le_of_ble_eq_true->cE,eq_of_beq_eq_true->cQ,ble->cY,beq->cZ
open Option.some renaming injEq->bK,inj->bO
open Go.Sem renaming run_bind->bL,run_pure->bW
open Go renaming Calls->bN
open Go.IntWalk renaming i64_in->bT
open Go.Region renaming ready->bU,binds->dB
open Go.Value.slice renaming injEq->bZ
open Go.DataW renaming trod->cG
open Array renaming getElem?_eq_none->cJ
open List.cons renaming injEq->cK
open Prod.mk renaming injEq->cO
open Go.Value renaming slice->cP,ownBlock->cV,bool->dF
open Go.Addr renaming add->cU
namespace Bk
abbrev AE:= @if_neg
abbrev AU:= @if_pos
end Bk
namespace Go.Proofs
open Go.Shelf
def Tryz.lays2n15_ren:Go.Shelf.Ren:=⟨fun|15=>88|n=>n,fun|22=>130|3=>3|4=>4|n=>n,fun|n=>n⟩
def Tryz.lays2n15:Go.Proofs.Lays2.n15 prog Tryz.lays2n15_ren:={
 mixed:=by kernel_rfl
 f15:=func88.trans (congrArg some (by kernel_rfl))
 t3:=underlying3
 a3:=isAgg3
 z3:=sizeOf3
 v3:=zeroValue3
 t4:=underlying4
 a4:=isAgg4
 z4:=sizeOf4
 v4:=zeroValue4
 t22:=underlying130
 a22:=isAgg130
 z22:=sizeOf130
 v22:=zeroValue130
 i3:=by kernel_rfl }
end Go.Proofs
namespace Bk
open Go Go.RowKit
def Ext (w w':wD):Prop:=Below w.heap.size w w'
def Ext.refl (w:wD):Ext w w:=Below.refl _ _
def Ext.trans {a b c:wD} (h:Ext a b) (k:Ext b c):Ext a c:=Below.trans h (Below.mono k h.size)
def Ext.alloc {a w:wD} (h:Ext a w) (o:Obj):Ext a (w.alloc o):=Below.alloc h h.size o
def Ext.drew {a w:wD} (h:Ext a w):Ext a w.drew:=Below.drew h
def Ext.size {a w:wD} (h:Ext a w):a.heap.size<=w.heap.size:=Below.size h
def Ext.block {a w:wD} (h:Ext a w) {k:Nat} (f:k<a.heap.size):w.heap[k]? = a.heap[k]? := Below.block h k f
def Ext.cells {a w:wD} (h:Ext a w) : ∀b o,b<a.heap.size->w.cell? ⟨b,o,none⟩=a.cell? ⟨b,o,none⟩:=fun b o f=>Below.cell (p:=⟨b,o,none⟩) h f
def Cb {w:wD} {p:Addr} {v:Value} (h:w.cell? p=some v):p.block<w.heap.size:=by
 unfold World.cell? at h;rcases bQ p.block w.heap.size with f|f
 . exact f
 . simp [cJ f] at h
def Ext.keep {a w:wD} (h:Ext a w) {b o:Nat} {v:Value} (f:a.cell? ⟨b,o,none⟩=some v):w.cell? ⟨b,o,none⟩=some v:=
 (h.cells b o (Cb f)).trans f
inductive Nd where
 | mk (kind num:Int) (name:lB) (kids:List Nd)
def Nd.kind:Nd->Int | .mk k _ _ _=>k
def Nd.num:Nd->Int | .mk _ n _ _=>n
def Nd.name:Nd->lB | .mk _ _ s _=>s
def Nd.kids:Nd->List Nd | .mk _ _ _ l=>l
abbrev str (l:lB):Value:=.string ⟨l.toArray⟩
abbrev Nd.val (t:Nd) (a:oA) (c:Nat):Value:=.agg #[.int .u8 t.kind,.int .i64 t.num,str t.name,.slice a t.kids.length c]
abbrev Nd.cells (t:Nd) (a:oA) (c:Nat):lV:=[.int .u8 t.kind,.int .i64 t.num,str t.name,.slice a t.kids.length c]
mutual
def Nd.sits (S:nP) (w:wD):Nd->oA->Prop
 | .mk _ _ _ l,a=>rowSits S w l a
def rowSits (S:nP) (w:wD):List Nd->oA->Prop
 | [],_=>True
 | t::r,a=> ∃b o a' c,a=some ⟨b,o,none⟩/\S b/\w.cell? ⟨b,o,none⟩=some (.int .u8 t.kind)/\w.cell? ⟨b,o+1,none⟩=some (.int .i64 t.num) /\
  w.cell? ⟨b,o+2,none⟩=some (str t.name)/\w.cell? ⟨b,o+3,none⟩=some (.slice a' t.kids.length c)/\t.sits S w a'/\rowSits S w r (some ⟨b,o+4,none⟩)
end
mutual
def Nd.wf:Nd->Prop
 | .mk k n s l=>0<=k/\k<=255 /\ -9223372036854775808<=n/\n<=9223372036854775807/\s.length<=9223372036854775807/\l.length<=9223372036854775807/\A3 l
def A3:List Nd->Prop
 | []=>True
 | t::r=>t.wf/\A3 r
end
mutual
def Nd.size:Nd->Nat
 | .mk _ _ _ l=>1+Am l
def Am:List Nd->Nat
 | []=>0
 | t::r=>t.size+Am r
end
def BJ {l:List Nd} (h:A3 l) : ∀t∈l,t.wf:=by
 induction l with
 | nil=>simp
 | cons x r E=>
  simp only [A3] at h;intro t f;rcases bR.1 f with rfl|f
  . exact h.1
  . exact E h.2 t f
def Dz {l:List Nd} {t:Nd} (h:t∈l):t.size<=Am l:=by
 induction l with
 | nil=>cases h
 | cons x r f=>
  simp only [Am];rcases bR.1 h with rfl|h
  . omega
  . have:=f h;omega
def Nd.size_pos (t:Nd):1<=t.size:=by cases t;simp [Nd.size]
def DM {S:nP} {w:wD} {l:List Nd} {a:oA} (h:rowSits S w l a) {i:Nat} {t:Nd} (f:l[i]? = some t) :
 ∃b o E c,a=some ⟨b,o,none⟩/\S b/\w.cell? ⟨b,o+i*4,none⟩=some (.int .u8 t.kind)/\w.cell? ⟨b,o+i*4+1,none⟩=some (.int .i64 t.num) /\
  w.cell? ⟨b,o+i*4+2,none⟩=some (str t.name)/\w.cell? ⟨b,o+i*4+3,none⟩=some (.slice E t.kids.length c)/\t.sits S w E:=by
 induction l generalizing i a with
 | nil=>simp at f
 | cons x r M=>
  simp only [rowSits] at h;obtain ⟨b,o,E,c,rfl,N,O,h1,U,V,X,Y⟩:=h;cases i with
  | zero=>
   simp at f;subst f;exact ⟨b,o,E,c,rfl,N,O,h1,U,V,X⟩
  | succ i=>
   obtain ⟨b',o',F,Z,L,r⟩:=M Y (by simpa using f);simp only [bK,Addr.mk.injEq] at L;obtain ⟨rfl,rfl,-⟩:=L;refine ⟨b,o,F,Z,rfl,r.1,?_⟩;rw [show o+(i+1)*4=o+4+i*4 from by omega];exact r.2
mutual
def Nd.sits_mono {S S':nP} {w w':wD} (hS : ∀b,S b->S' b) (hc : ∀b o v,S b->w.cell? ⟨b,o,none⟩=some v->w'.cell? ⟨b,o,none⟩=some v) :
 ∀(t:Nd) (a:oA),t.sits S w a->t.sits S' w' a
 | .mk _ _ _ l,a,h=>by
  simp only [Nd.sits] at h ⊢;exact Ew hS hc l a h
def Ew {S S':nP} {w w':wD} (hS : ∀b,S b->S' b) (hc : ∀b o v,S b->w.cell? ⟨b,o,none⟩=some v->w'.cell? ⟨b,o,none⟩=some v) :
 ∀(l:List Nd) (a:oA),rowSits S w l a->rowSits S' w' l a
 | [],_,_=>by simp [rowSits]
 | t::r,a,h=>by
  simp only [rowSits] at h ⊢;obtain ⟨b,o,a',c,rfl,hb,h0,h1,h2,h3,hs,hr⟩:=h;exact ⟨b,o,a',c,rfl,hS b hb,hc _ _ _ hb h0,hc _ _ _ hb h1,hc _ _ _ hb h2,hc _ _ _ hb h3,Nd.sits_mono hS hc t a' hs,Ew hS hc r _ hr⟩
end
def rowSits.ext {S:nP} {w w':wD} {l:List Nd} {a:oA} (h:rowSits S w l a) (e:Ext w w'):rowSits S w' l a:=
 Ew (fun _ h=>h) (fun _ _ _ _ f=>e.keep f) l a h
def Nd.sits.ext {S:nP} {w w':wD} {t:Nd} {a:oA} (h:t.sits S w a) (e:Ext w w'):t.sits S w' a:=
 Nd.sits_mono (fun _ h=>h) (fun _ _ _ _ f=>e.keep f) t a h
structure Fr (S:nP) (w w':wD):Prop where
 os:w'.os=w.os
 tape:w'.tape=w.tape
 output:w'.output=w.output
 size:w.heap.size<=w'.heap.size
 block : ∀k,k<w.heap.size -> ¬S k->w'.heap[k]? = w.heap[k]?
def Fr.refl (S:nP) (w:wD):Fr S w w:=⟨rfl,rfl,rfl,bJ _,fun _ _ _=>rfl⟩
def Fr.trans {S:nP} {a b c:wD} (h:Fr S a b) (k:Fr S b c):Fr S a c:=
 ⟨k.os.trans h.os,k.tape.trans h.tape,k.output.trans h.output,cD h.size k.size,fun i f E=>(k.block i (Nat.lt_of_lt_of_le f h.size) E).trans (h.block i f E)⟩
def Fr.of_ext {S:nP} {a b:wD} (h:Ext a b):Fr S a b:=⟨Below.os h,Below.tape h,Below.output h,Below.size h,fun k f _=>Below.block h k f⟩
def Fr.setCell {S:nP} {a w:wD} (h:Fr S a w) (p:Addr) (v:Value) (f:S p.block\/a.heap.size<=p.block):Fr S a (w.setCell p v):=by
 refine ⟨h.os,h.tape,h.output,?_,fun k F E=>?_⟩
 . have:(w.setCell p v).heap.size=w.heap.size:=by simp [World.setCell]
   rw [this];exact h.size
 . rw [Below.heap_setCell _ _ _ _ (by rintro rfl;rcases f with f|f;exact E f;omega)];exact h.block k F E
def Fr.cells {S:nP} {a w:wD} (h:Fr S a w) : ∀b o,b<a.heap.size -> ¬S b->w.cell? ⟨b,o,none⟩=a.cell? ⟨b,o,none⟩:=
 fun b _ f E=>World.cell?_of_block (w:=a) (h.block b f E)
def Fr.keep {S:nP} {a w:wD} (h:Fr S a w) {b o:Nat} {v:Value} (E : ¬S b) (f:a.cell? ⟨b,o,none⟩=some v):w.cell? ⟨b,o,none⟩=some v:=
 (h.cells b o (Cb f) E).trans f
def rowSits.fr {S T:nP} {w w':wD} {l:List Nd} {a:oA} (h:rowSits S w l a) (e:Fr T w w') (f : ∀b,S b -> ¬T b):rowSits S w' l a:=
 Ew (fun _ h=>h) (fun b _ _ E F=>e.keep (f b E) F) l a h
def Nd.sits.fr {S T:nP} {w w':wD} {t:Nd} {a:oA} (h:t.sits S w a) (e:Fr T w w') (f : ∀b,S b -> ¬T b):t.sits S w' a:=
 Nd.sits_mono (fun _ h=>h) (fun b _ _ E F=>e.keep (f b E) F) t a h
def Hn {a b:Value} (h:a=b):Ending.returned a = .returned b:=by rw [h]
abbrev Sl:=List (Nat×Value)
def Ck:Sl->Nat->Option Value
 | [],_=>none
 | (k,v)::r,d=>match cZ k d with
  | true=>some v
  | false=>Ck r d
def ev (l:Sl):Operand->Option Value
 | .tmp t=>Ck l t
 | .const v=>some v
 | .global g=>some (.pointer (some ⟨g,0,none⟩))
 | .func f=>some (.func (.func f) #[] #[])
def evs (l:Sl):List Operand->Option lV
 | []=>some []
 | x::r=>match ev l x with
  | none=>none
  | some v=>match evs l r with
   | none=>none
   | some vs=>some (v::vs)
structure Env (n:Nat) (l:Sl) (a:Act):Prop where
 size:a.tmps.size=n
 defers:a.defers=[]
 has : ∀d v,Ck l d=some v->a.tmps.getD d undef=v
def Env.ev {n:Nat} {l:Sl} {a:Act} (h:Env n l a) {x:Operand} {v:Value} (E:ev l x=some v):a.eval x=v:=by
 cases x with
 | tmp t=>exact h.has t v E
 | const c=>simpa [Bk.ev,Act.eval] using E
 | global g=>simpa [Bk.ev,Act.eval] using E
 | func f=>simpa [Bk.ev,Act.eval] using E
def Env.evs {n:Nat} {l:Sl} {a:Act} (h:Env n l a) : ∀ {xs:List Operand} {vs:lV},evs l xs=some vs->xs.map a.eval=vs
 | [],vs,f=>by simp [Bk.evs] at f;simp [f]
 | x::r,vs,f=>by
  simp only [Bk.evs] at f;cases h1:Bk.ev l x with
  | none=>simp [h1] at f
  | some v=>
   cases h2:Bk.evs l r with
   | none=>simp [h1,h2] at f
   | some us=>
    simp [h1,h2] at f;subst f;simp [h.ev h1,Env.evs h h2]
def JX (k:Nat) (v:Value) (l:Sl) (d:Nat):Ck ((k,v)::l) d=if k=d then some v else Ck l d:=by
 simp only [Ck];by_cases h:k=d
 . subst h;simp
 . have:cZ k d=false:=by
    cases hb:cZ k d
    . rfl
    . exact absurd (cQ hb) h
   rw [this,AE h]
def Env.put {n:Nat} {l:Sl} {a:Act} (h:Env n l a) {d:Nat} (F:bM d n=true) (v:Value):Env n ((d,v)::l) (a.put (some d) v):=by
 have E:d<n:=cE F;refine ⟨by simp [Act.put,h.size],by simp [Act.put,h.defers],fun k u f=>?_⟩;rw [JX] at f;simp only [Act.put];by_cases e:d=k
 . subst e;simp at f;subst f;simp [h.size,E]
 . rw [AE e] at f;have:=h.has k u f;simpa [Array.getElem?_setIfInBounds_ne e] using this
def Up (m l:Sl):Prop:= ∀d v,Ck m d=some v->Ck l d=some v
def Env.sub {n:Nat} {m l:Sl} {a:Act} (h:Env n l a) (f:Up m l):Env n m a:=⟨h.size,h.defers,fun d v E=>h.has d v (f d v E)⟩
def AY {l:Sl}:Up [] l:=fun _ _ h=>by simp [Ck] at h
def Ak {m l:Sl} {d:Nat} {v:Value} (h:Ck l d=some v) (r:Up m l):Up ((d,v)::m) l:=fun k u f=>by
 rw [JX] at f;by_cases e:d=k
 . subst e;simp at f;subst f;exact h
 . rw [AE e] at f;exact r k u f
def AW {m l:Sl} {d:Nat} {v f:Value} (h:Ck l d=some f) (e:f=v) (r:Up m l):Up ((d,v)::m) l:=Ak (e▸h) r
def CW (P:Program) (n:Nat) (c:Code) (Q:Exit->Act->wD->Prop) (l:Sl) (w:wD):Prop:= ∀a,Env n l a->c.wp P Q a w
def LW (P:Program) (n:Nat) (ops:Array Oper) (Q:Exit->Act->wD->Prop) (os:List Oper) (l:Sl) (w:wD):Prop:= ∀a,Env n l a->wpList P ops Q os a w
def QW (n:Nat) (Q:Exit->Act->wD->Prop) (e:Exit) (l:Sl) (w:wD):Prop:= ∀a,Env n l a->Q e a w
section code
variable {P:Program} {n:Nat} {Q:Exit->Act->wD->Prop} {l:Sl} {w:wD}
def CW.sub {c:Code} {m:Sl} (h:CW P n c Q m w) (f:Up m l):CW P n c Q l w:=fun a E=>h a (E.sub f)
def Aj {x y:Code} (h:CW P n x (Exit.then (y.wp P Q) Q) l w):CW P n (.seq x y) Q l w:=fun a f=>wp_seq (h a f)
def Ym {x y:Code} (I:Act->wD->Prop) (h:CW P n x (Exit.then I Q) l w) (k : ∀a w,I a w->y.wp P Q a w):CW P n (.seq x y) Q l w:=fun a f=>
 wp_seq (Code.wp_mono (fun e a w q=>by cases e<;>first|exact k _ _ q|exact q) (h a f))
def Ai {y:Code} (h:CW P n y Q l w):QW n (Exit.then (y.wp P Q) Q) .normal l w:=h
def SP {I:Act->wD->Prop} (h : ∀a,Env n l a->I a w):QW n (Exit.then I Q) .normal l w:=h
def AL {K:Act->wD->Prop} (h:QW n Q .ret l w):QW n (Exit.then K Q) .ret l w:=h
def AG {K:Act->wD->Prop} {i:Nat} (h:QW n Q (.exit i) l w):QW n (Exit.then K Q) (.exit i) l w:=h
def As (h:QW n Q .normal l w):CW P n .skip Q l w:=fun a f=>wp_skip (h a f)
def CB {i:Nat} (h:QW n Q (.exit i) l w):CW P n (.exit i) Q l w:=fun a f=>wp_exit (h a f)
def BD (h:QW n Q .ret l w):CW P n .ret Q l w:=fun a f=>wp_ret (h a f)
def Ar {i:Nat} {c:Code} (h:CW P n c (Exit.inBlock i Q) l w):CW P n (.block i c) Q l w:=fun a f=>wp_block (h a f)
def Ae {i:Nat} (h:QW n Q .normal l w):QW n (Exit.inBlock i Q) .normal l w:=h
def AV {i:Nat} (h:QW n Q .ret l w):QW n (Exit.inBlock i Q) .ret l w:=h
def A8 {i:Nat} (h:QW n Q .normal l w):QW n (Exit.inBlock i Q) (.exit i) l w:=fun a f=>by simp only [Exit.inBlock,if_true];exact h a f
def CK {c:Operand} {x y:Code} (E:ev l c=some (.bool true)) (h:CW P n x Q l w):CW P n (.cond c x y) Q l w:=fun a f=>wp_cond_true (f.ev E) (h a f)
def Da {c:Operand} {x y:Code} (E:ev l c=some (.bool false)) (h:CW P n y Q l w):CW P n (.cond c x y) Q l w:=fun a f=>wp_cond_false (f.ev E) (h a f)
def CV {c:Operand} {x y:Code} {b:Bool} (h:ev l c=some (.bool b)) (E:b=true->CW P n x Q l w) (F:b=false->CW P n y Q l w):CW P n (.cond c x y) Q l w:=
 fun a f=>wp_cond_split (f.ev h) (fun e=>E e a f) (fun e=>F e a f)
def AH {c:Operand} {x y:Code} {p:Prop} [Decidable p] (f:ev l c=some (.bool (decide p))) (h:p->CW P n x Q l w) (E : ¬p->CW P n y Q l w):CW P n (.cond c x y) Q l w:=
 CV f (fun e=>h (of_decide_eq_true e)) (fun e=>E (of_decide_eq_false e))
def QQ {c:Operand} {x y:Code} {p:Prop} [Decidable p] (f:ev l c=some (.bool (decide p))) (E:p) (h:CW P n x Q l w):CW P n (.cond c x y) Q l w:=
 AH f (fun _=>h) (fun e=>absurd E e)
def Fa {c:Operand} {x y:Code} {p:Prop} [Decidable p] (f:ev l c=some (.bool (decide p))) (E : ¬p) (h:CW P n y Q l w):CW P n (.cond c x y) Q l w:=
 AH f (fun e=>absurd e E) (fun _=>h)
def Fc {c:Operand} {x y:Code} {b:Bool} (f:ev l c=some (.bool b)) (E:b=true) (h:CW P n x Q l w):CW P n (.cond c x y) Q l w:=CK (E▸f) h
def Fp {c:Operand} {x y:Code} {b:Bool} (f:ev l c=some (.bool b)) (E:b=false) (h:CW P n y Q l w):CW P n (.cond c x y) Q l w:=Da (E▸f) h
def Ad {E:Nat} {f:List Oper} (h:LW P n f.toArray Q f l w):CW P n (.region E f.toArray false) Q l w:=fun a F=>wp_region_lit (h a F)
def AJ {ι:Type} {c:Code} (L:ι->Sl) (I:ι->wD->Prop) (μ:ι->Nat) (U:ι) (hs:Up (L U) l) (h₀:I U w)
 (E : ∀x w,I x w->CW P n c (Exit.then (fun M w'=> ∃y,Env n (L y) M/\I y w'/\μ y<μ x) Q) (L x) w):CW P n (.loop c) Q l w:=by
 intro a ha;intro b k cs;have key : ∀m x a w,μ x=m->I x w->Env n (L x) a ->
  ∃e M w',Q e M w'/\Arrives P (lone (b.at a (.code c::.inLoop c::k)) cs w) b k cs e M w':=by
  intro m
  induction m using Nat.strongRecOn with
  | _ m ih=>
   intro x a w hm hI hE;obtain ⟨e,N,O,h,f⟩:=E x w hI a hE b (.inLoop c::k) cs;cases e with
   | normal=>
    obtain ⟨y,V,X,Y⟩:=h;obtain ⟨e₂,a₂,w₂,Z,F⟩:=ih (μ y) (hm▸Y) y N O rfl X V;exact ⟨e₂,a₂,w₂,Z,.of_steps (Steps.trans f (.one step_inLoop)) F⟩
   | exit id=>exact ⟨_,N,O,h,.pass (x:=.inLoop c) rfl (fun _ _=>.inl (by simp)) f⟩
   | goto l=>exact ⟨_,N,O,h,.pass (x:=.inLoop c) rfl (fun _ _=>.inl (by simp)) f⟩
   | ret=>exact ⟨_,N,O,h,.pass (x:=.inLoop c) rfl (fun _ _=>.inl (by simp)) f⟩
   | panic ch=>exact ⟨_,N,O,h,.pass (x:=.inLoop c) rfl (fun _ _=>.inl (by simp)) f⟩
   | outgrown=>exact ⟨_,N,O,h,f⟩
 obtain ⟨e,M,w',h,f⟩:=key (μ U) U a w rfl h₀ (ha.sub hs);exact ⟨e,M,w',h,.of_steps (.one step_loop) f⟩
def Aw {ι:Type} {L:ι->Sl} {I:ι->wD->Prop} {μ:ι->Nat} {x:ι} (y:ι) (f:Up (L y) l) (h:I y w) (E:μ y<μ x) :
 QW n (Exit.then (fun F w'=> ∃y,Env n (L y) F/\I y w'/\μ y<μ x) Q) .normal l w:=fun _ M=>⟨y,M.sub f,h,E⟩
end code
def JY:Nat->lV->Sl
 | _,[]=>[]
 | i,v::r=>(i,v)::JY (i+1) r
def JZ (d:Nat) (v:Value) : ∀(vs:lV) (i:Nat),Ck (JY i vs) d=some v->i<=d/\vs[d-i]? = some v
 | [],_,h=>by simp [JY,Ck] at h
 | u::r,i,h=>by
  simp only [JY] at h;rw [JX] at h;by_cases e:i=d
  . subst e;simp at h;subst h;simp
  . rw [AE e] at h;obtain ⟨h1,f⟩:=JZ d v r (i+1) h;refine ⟨by omega,?_⟩;rw [show d-i=(d-(i+1))+1 from by omega];simpa using f
def Af {P:Program} {f:FuncId} {fn:Func} {c:Code} {args:lV} {n:Nat} {w:wD} {R:Ending->wD->Prop}
 (F:P.funcs[f]? = some fn) (U:fn.ntmps=n) (L:fn.body=some c) (M:cY args.length n=true) (h:CW P n c (bodyPost P fn R) (JY 0 args) w):Calls P f args.toArray w R:=by
 refine calls_of_wp F L (h _ ?_);have N:args.length<=n:=by simpa using M
 refine ⟨by simp;omega,rfl,fun d v O=>?_⟩;obtain ⟨-,E⟩:=JZ d v args 0 O;simp only [Nat.sub_zero] at E;have:d<args.length:=by
  rcases bQ d args.length with h|h
  . exact h
  . rw [bS h] at E;cases E
 rw [aY this] at E;simp only [bK] at E;simp [Array.getElem?_append,this,E]
section ends
variable {P:Program} {fn:Func} {n:Nat} {R:Ending->wD->Prop} {l:Sl} {w:wD}
def Wq (h:fn.results = #[]) (f:R (.returned (.tuple #[])) w):QW n (bodyPost P fn R) .ret l w:=fun a E=>⟨E.defers,_,results_none h _ _ _,f⟩
def Bn (h:fn.results = #[]) (f:R (.returned (.tuple #[])) w):QW n (bodyPost P fn R) .normal l w:=fun a E=>⟨E.defers,_,results_none h _ _ _,f⟩
def Be {t:Nat} {v:Value} (h:fn.results = #[.tmp t]) (E:Ck l t=some v) (F:R (.returned v) w):QW n (bodyPost P fn R) .ret l w:=fun a f=>
 ⟨f.defers,_,results_tmp h _ _ _,by rw [f.has t v E];exact F⟩
def CC {t u:Nat} {v x:Value} (h:fn.results = #[.tmp t,.tmp u]) (E:Ck l t=some v) (F:Ck l u=some x) (L:R (.returned (.tuple #[v,x])) w):QW n (bodyPost P fn R) .ret l w:=fun a f=>
 ⟨f.defers,_,results_tmp2 h _ _ _,by rw [f.has t v E,f.has u x F];exact L⟩
end ends
inductive Sk where
 | int (k:IntKind)|bool|str|slice (e:Nat)|struct (fs:List (Nat×Nat))|array (len e:Nat)|ptr (e:Nat)|map (k e:Nat)|func|iface
abbrev Tab:=List (Nat×Sk×Nat)
def AD:Tab->Nat->Option (Sk×Nat)
 | [],_=>none
 | p::r,t=>match cZ p.1 t with
  | true=>some p.2
  | false=>AD r t
def Sk.ok (P:Program) (t:Nat):Sk->Prop
 | .int k=>P.underlying t=some (.int k)
 | .bool=>P.underlying t=some .bool
 | .str=>P.underlying t=some .string
 | .slice e=>P.underlying t=some (.slice e)
 | .array n e=>P.underlying t=some (.array n e)
 | .ptr e=>P.underlying t=some (.pointer e)
 | .map k e=>P.underlying t=some (.map k e)
 | .func=> ∃a b c,P.underlying t=some (.func a b c)
 | .iface=> ∃a,P.underlying t=some (.interface a)
 | .struct fs=> ∃gs,P.underlying t=some (.struct gs)/\gs.size=fs.length /\ ∀(i o ft:Nat),fs[i]? = some (o,ft) -> ∃g:Field,gs[i]? = some g/\g.offset=o/\g.type=ft /\ ∃j:TypeInfo,P.info? ft=some j/\j.size≠0
def Sk.check (P:Program) (t:Nat):Sk->Bool
 | .int k=>match P.underlying t with|some (.int k')=>decide (k=k')|_=>false
 | .bool=>match P.underlying t with|some .bool=>true|_=>false
 | .str=>match P.underlying t with|some .string=>true|_=>false
 | .slice e=>match P.underlying t with|some (.slice e')=>cZ e' e|_=>false
 | .array n e=>match P.underlying t with|some (.array n' e')=>cZ n' n&&cZ e' e|_=>false
 | .ptr e=>match P.underlying t with|some (.pointer e')=>cZ e' e|_=>false
 | .map k e=>match P.underlying t with|some (.map k' e')=>cZ k' k&&cZ e' e|_=>false
 | .func=>match P.underlying t with|some (.func _ _ _)=>true|_=>false
 | .iface=>match P.underlying t with|some (.interface _)=>true|_=>false
 | .struct fs=>match P.underlying t with
  | some (.struct gs)=>cZ gs.size fs.length&&(List.range fs.length).all fun i=>match fs[i]?,gs[i]? with
   | some (o,ft),some g=>cZ g.offset o&&cZ g.type ft&&match P.info? ft with|some j=> !Nat.beq j.size 0|none=>false
   | _,_=>false
  | _=>false
def Sk.ok_of_check {P:Program} {t:Nat} {s:Sk} (h:s.check P t=true):s.ok P t:=by
 cases s with
 | struct N=>
  simp only [Sk.check] at h;split at h
  . rename_i U V;simp only [bB,cX,List.mem_range] at h;refine ⟨U,V,cQ h.1,fun i o ft F=>?_⟩;have L:i<N.length:=by
     rcases bQ i N.length with M|M
     . exact M
     . rw [bS M] at F;cases F
    have f:=h.2 i L;rw [F] at f;split at f
    . rename_i o' X g O Y;simp only [bK,cO] at O;obtain ⟨rfl,rfl⟩:=O;simp only [bB] at f;refine ⟨g,Y,cQ f.1.1,cQ f.1.2,?_⟩;have E:=f.2;split at E
      . rename_i j Z;exact ⟨j,Z,fun e=>by rw [e] at E;simp at E⟩
      . cases E
    . cases f
  . cases h
 | func=>
  simp only [Sk.check] at h;split at h
  . exact ⟨_,_,_,by assumption⟩
  . cases h
 | iface=>
  simp only [Sk.check] at h;split at h
  . exact ⟨_,by assumption⟩
  . cases h
 | int k=>simp only [Sk.check] at h;split at h<;>simp_all [Sk.ok]
 | bool=>simp only [Sk.check] at h;split at h<;>simp_all [Sk.ok]
 | str=>simp only [Sk.check] at h;split at h<;>simp_all [Sk.ok]
 | slice e=>simp only [Sk.check] at h;split at h<;>simp_all [Sk.ok]
 | ptr e=>simp only [Sk.check] at h;split at h<;>simp_all [Sk.ok]
 | array n e=>simp only [Sk.check] at h;split at h<;>simp_all [Sk.ok]
 | map n e=>simp only [Sk.check] at h;split at h<;>simp_all [Sk.ok]
structure TyOk (P:Program) (t:Nat) (s:Sk) (sz:Nat):Prop where
 under:s.ok P t
 info : ∃i,P.info? t=some i/\i.size=sz
def TabOk (P:Program) (tab:Tab):Prop:= ∀t s sz,AD tab t=some (s,sz)->TyOk P t s sz
def Tab.check (P:Program) (tab:Tab):Bool:=tab.all fun p=>p.2.1.check P p.1&&match P.info? p.1 with|some i=>cZ i.size p.2.2|none=>false
def SQ {tab:Tab} {t:Nat} {x:Sk×Nat} (h:AD tab t=some x):(t,x)∈tab:=by
 induction tab with
 | nil=>simp [AD] at h
 | cons p r f=>
  simp only [AD] at h;split at h
  . rename_i E;have:=cQ E;simp only [bK] at h;subst h this;exact List.mem_cons_self
  . exact List.mem_cons_of_mem _ (f h)
def TabOk.of_check {P:Program} {tab:Tab} (h:tab.check P=true):TabOk P tab:=fun t s sz E=>by
 have:=cX.1 h _ (SQ E);simp only [bB] at this;refine ⟨Sk.ok_of_check this.1,?_⟩;have f:=this.2;split at f
 . rename_i i F;exact ⟨i,F,cQ f⟩
 . cases f
def BA (P:Program) (n:Nat) (l:Sl) (S:wD->Prop) (op:Op) (ty:TypeId) (v:Value):Prop:=
 ∀a w dst pos after g,Env n l a->S w->(execOp a.eval ⟨dst,op,ty,pos,after,g⟩).run P w = .ok (.value v) w
section pur
variable {P:Program} {n:Nat} {l:Sl} {S:wD->Prop} {ty:TypeId} {tab:Tab}
def BM {x:Operand} {v:Value} (h:ev l x=some v):BA P n l S (.move x) ty v:=fun a w f pos after g E _=>by
 simp [execOp,E.ev h]
def ES {x:Operand} {v:Value} (h:ev l x=some v):BA P n l S (.assign x) ty v:=fun a w f pos after g E _=>by
 simp [execOp,E.ev h]
def AK {t:Nat} {d:TypeDesc} (h:P.underlying t=some d) (w:wD):(underlying t).run P w = .ok d w:=by
 simp [underlying,program,Sem.run,h,bind,Sem.bind,pure]
def Ur {t:Nat} {i:TypeInfo} (h:P.info? t=some i) (w:wD):(Go.sizeOf t).run P w = .ok i.size w:=by
 simp [Go.sizeOf,typeInfo,program,Sem.run,h,bind,Sem.bind,pure]
def C2 {t:Nat} {s:Sk} {sz:Nat} (h:TyOk P t s sz) (w:wD):(Go.sizeOf t).run P w = .ok sz w:=by
 obtain ⟨i,f,E⟩:=h.info;simp [Go.sizeOf,typeInfo,program,Sem.run,f,bind,Sem.bind,pure,E]
def AS {x:Operand} {s f b o off h sz:Nat} {E:List (Nat×Nat)} (T:TabOk P tab) (L:ev l x=some (.pointer (some ⟨b,o,none⟩)))
 (M:AD tab s=some (.struct E,sz)) (N:E[f]? = some (off,h)):BA P n l S (.fieldAddr s x f) ty (.pointer (some ⟨b,o+off,none⟩)):=fun a w O pos after g U _=>by
 obtain ⟨gs,h1,-,V⟩:=(T _ _ _ M).under;obtain ⟨fd,X,Y,Z,j,h6,h7⟩:=V f off h N;have e:(Instr.fieldAt s (.pointer (some ⟨b,o,none⟩)) f).run P w = .ok (.pointer (some ⟨b,o+off,none⟩)) w:=by
  simp only [Instr.fieldAt,bL,AK h1,bG,X,Instr.sureAddr,bW,fieldPlace,Z,Y];simp only [Ur h6,h7,if_false,bW,cU];by_cases F:off=0
  . subst F;simp
  . simp [F]
 simp [execOp,U.ev L,e]
def DN {x:Operand} {s f b o E sz:Nat} {h:List (Nat×Nat)} (T:TabOk P tab) (F:ev l x=some (.pointer (some ⟨b,o,none⟩)))
 (L:AD tab s=some (.struct h,sz)) (M:h[f]? = some (0,E)):BA P n l S (.fieldAddr s x f) ty (.pointer (some ⟨b,o,none⟩)):=AS T F L M
def Sk.agg:Sk->Bool
 | .struct _ | .array _ _=>true
 | _=>false
def Eo {t:Nat} {s:Sk} {sz:Nat} (h:TyOk P t s sz) (w:wD):(isAgg t).run P w = .ok s.agg w:=by
 have:=h.under;cases s with
 | struct f=>obtain ⟨E,h1,-⟩:=this;simp [isAgg,AK h1,bG,Sk.agg]
 | func=>obtain ⟨_,_,_,h1⟩:=this;simp [isAgg,AK h1,bG,Sk.agg]
 | iface=>obtain ⟨_,h1⟩:=this;simp [isAgg,AK h1,bG,Sk.agg]
 | _=>simp [isAgg,AK this,bG,Sk.agg]
def Ax {x:Operand} {t sz:Nat} {s:Sk} {p:Addr} {v:Value} (T:TabOk P tab) (f:AD tab t=some (s,sz)) (h:s.agg=false) (E:ev l x=some (.pointer (some p)))
 (F : ∀w,S w->w.cell? p=some v):BA P n l S (.load t x) ty v:=fun a w L pos after g M N=>by
 have e:(Instr.loadAt t (.pointer (some p))).run P w = .ok v w:=by
  simp only [Instr.loadAt,Instr.sureAddr,bL,bW,bG,loadVar,Eo (T _ _ _ f),h];simp [load,Sem.run,F w N]
 simp [execOp,M.ev E,e]
def Row (w:wD) (p:Addr) (vs:lV):Prop:= ∀i v,vs[i]? = some v->w.cell? (p.add i)=some v
def Ex {w:wD} {p:Addr} {vs:lV} (h:Row w p vs):(loadCells p vs.length).run P w = .ok vs.toArray w:=
 run_loadCells_list w p vs h
def Ir {x:Operand} {t sz:Nat} {s:Sk} {p:Addr} {vs:lV} (T:TabOk P tab) (f:AD tab t=some (s,sz)) (h:s.agg=true) (E:ev l x=some (.pointer (some p)))
 (F:vs.length=sz) (L : ∀w,S w->Row w p vs):BA P n l S (.load t x) ty (.agg vs.toArray):=fun a w M pos after g N O=>by
 have e:(Instr.loadAt t (.pointer (some p))).run P w = .ok (.agg vs.toArray) w:=by
  simp only [Instr.loadAt,Instr.sureAddr,bL,bW,bG,loadVar,Eo (T _ _ _ f),h,if_true,C2 (T _ _ _ f)];rw [<-F,Ex (L w O)]
 simp [execOp,N.ev E,e]
def A6 {x:Operand} {t sz:Nat} {s:Sk} {p:Addr} {vs:lV} (T:TabOk P tab) (f:AD tab t=some (s,sz)) (h:s.agg=true) (E:ev l x=some (.pointer (some p)))
 (F : ∀w,S w->Row w p vs) (L:vs.length=sz):BA P n l S (.load t x) ty (.agg vs.toArray):=Ir T f h E L F
def Ay {x i:Operand} {t e sz f b o len cap:Nat} {k:IntKind} {j:Int} {sE:Sk} (T:TabOk P tab) (F:AD tab t=some (.slice e,sz)) (L:AD tab e=some (sE,f))
 (M:ev l x=some (.slice (some ⟨b,o,none⟩) len cap)) (N:ev l i=some (.int k j)) (O:0<=j) (h1:j<len):BA P n l S (.indexAddr t x i) ty (.pointer (some ⟨b,o+j.toNat*f,none⟩)):=fun a w U pos after g h _=>by
 have V:P.underlying t=some (.slice e):=(T _ _ _ F).under;have e:(Instr.indexAt t (.slice (some ⟨b,o,none⟩) len cap) (.int k j)).run P w = .ok (.pointer (some ⟨b,o+j.toNat*f,none⟩)) w:=by
  simp only [Instr.indexAt,asIntOf,bL,bW,bG,AK V];simp only [O,h1,and_self,if_true,bL,C2 (T _ _ _ L),bG,bW,cU];by_cases E:j.toNat*f=0
  . simp [E]
  . simp [E]
 simp [execOp,h.ev M,h.ev N,e]
def Bv {op:BinOp} {t:Nat} {x y:Operand} {k f:IntKind} {a b:Int} {w:wD}:(eqGuard op t x y (.int k a) (.int f b)).run P w = .ok () w:=by
 unfold eqGuard;cases op<;>simp
def F9 {op:BinOp} {t:Nat} {x y:Operand} {a b:ByteArray} {w:wD}:(eqGuard op t x y (.string a) (.string b)).run P w = .ok () w:=by
 unfold eqGuard;cases op<;>simp
def Lb {α:Type} [BEq α] [LawfulBEq α] [DecidableEq α] (a b:α):(a==b)=decide (a=b):=by
 rw [Bool.eq_iff_iff];simp
section ints
variable {x y:Operand} {t t':Nat} {k:IntKind} {a b c:Int}
def NT (h:ev l x=some (.int k a)) (E:ev l y=some (.int k b)) (F:k.wrap (a+b)=c):BA P n l S (.binOp .add t x y t') ty (.int k c):=fun a w L pos after g f _=>by
 subst F;simp [execOp,f.ev h,f.ev E,Bv,binOp,Op.intArith]
def Cv (h:ev l x=some (.int k a)) (E:ev l y=some (.int k b)) (F:k.wrap (a-b)=c):BA P n l S (.binOp .sub t x y t') ty (.int k c):=fun a w L pos after g f _=>by
 subst F;simp [execOp,f.ev h,f.ev E,Bv,binOp,Op.intArith]
def DU (h:ev l x=some (.int k a)) (E:ev l y=some (.int k b)) (F:k.wrap (a*b)=c):BA P n l S (.binOp .mul t x y t') ty (.int k c):=fun a w L pos after g f _=>by
 subst F;simp [execOp,f.ev h,f.ev E,Bv,binOp,Op.intArith]
def Wr (h:ev l x=some (.int k a)) (E:ev l y=some (.int k b)):BA P n l S (.binOp .eql t x y t') ty (.bool (decide (a=b))):=fun a w F pos after g f _=>by
 simp [execOp,f.ev h,f.ev E,Bv,binOp,Op.intCmp,Lb]
def Ws (h:ev l x=some (.int k a)) (E:ev l y=some (.int k b)):BA P n l S (.binOp .neq t x y t') ty (.bool (decide (a≠b))):=fun a w F pos after g f _=>by
 simp [execOp,f.ev h,f.ev E,Bv,binOp,Op.intCmp,bne,Lb]
def Wt (h:ev l x=some (.int k a)) (E:ev l y=some (.int k b)):BA P n l S (.binOp .lss t x y t') ty (.bool (decide (a<b))):=fun a w F pos after g f _=>by
 simp [execOp,f.ev h,f.ev E,Bv,binOp,Op.intCmp]
def Wu (h:ev l x=some (.int k a)) (E:ev l y=some (.int k b)):BA P n l S (.binOp .leq t x y t') ty (.bool (decide (a<=b))):=fun a w F pos after g f _=>by
 simp [execOp,f.ev h,f.ev E,Bv,binOp,Op.intCmp]
def Wv (h:ev l x=some (.int k a)) (E:ev l y=some (.int k b)):BA P n l S (.binOp .gtr t x y t') ty (.bool (decide (b<a))):=fun a w F pos after g f _=>by
 simp [execOp,f.ev h,f.ev E,Bv,binOp,Op.intCmp]
def Ww (h:ev l x=some (.int k a)) (E:ev l y=some (.int k b)):BA P n l S (.binOp .geq t x y t') ty (.bool (decide (b<=a))):=fun a w F pos after g f _=>by
 simp [execOp,f.ev h,f.ev E,Bv,binOp,Op.intCmp]
end ints
def Wx (a b:lB):(⟨a.toArray⟩:ByteArray)++⟨b.toArray⟩=⟨(a++b).toArray⟩:=by
 apply ByteArray.ext;simp
def Lo (a:lB):(⟨a.toArray⟩:ByteArray).toList=a:=by
 simp [ByteArray.toList_eq]
section strs
variable {x y:Operand} {t t':Nat} {a b:lB}
def At (E:ev l x=some (str a)) (F:ev l y=some (str b)) (O:a.length+b.length<=9223372036854775807):BA P n l S (.binOp .add t x y t') ty (str (a++b)):=fun _ w L pos after g f _=>by
 have h : ¬IntKind.i64.max<(((⟨a.toArray⟩:ByteArray).size+(⟨b.toArray⟩:ByteArray).size:Nat):Int):=by
  have M:(⟨a.toArray⟩:ByteArray).size=a.length:=by simp [ByteArray.size]
  have N:(⟨b.toArray⟩:ByteArray).size=b.length:=by simp [ByteArray.size]
  rw [M,N];simp only [IntKind.max,IntKind.signed,IntKind.bits];omega
 simp only [execOp,f.ev E,f.ev F,bL,F9,bG,binOp,Op.stringOp,gt_iff_lt,AE h,bW,Wx]
def Us (h:ev l x=some (str a)) (E:ev l y=some (str b)):BA P n l S (.binOp .eql t x y t') ty (.bool (decide (a=b))):=fun _ w F pos after g f _=>by
 simp only [execOp,f.ev h,f.ev E,bL,F9,bG,binOp,Op.stringOp,bW,Lo,Lb]
def Ut (E:ev l x=some (str a)) (F:ev l y=some (str b)):BA P n l S (.binOp .neq t x y t') ty (.bool (decide (a≠b))):=fun _ w L pos after g f _=>by
 simp only [execOp,f.ev E,f.ev F,bL,F9,bG,binOp,Op.stringOp,bW,Lo];congr 3;by_cases h:a=b<;>simp [h]
def Wy {q:Bool} (f:ev l x=some (.bool q)):BA P n l S (.unOp .not t x) ty (.bool !q):=fun _ w h pos after g E _=>by
 simp [execOp,E.ev f,Op.unary]
def Bc {c:Operand} {q:Bool} {u:Value} (h:ev l c=some (.bool q)) (E:ev l x=some u) (F:q=true):BA P n l S (.pick c x y) ty u:=fun _ w L pos after g f _=>by
 subst F;simp [execOp,f.ev h,f.ev E,asBool]
def By {c:Operand} {q:Bool} {v:Value} (h:ev l c=some (.bool q)) (E:ev l y=some v) (F:q=false):BA P n l S (.pick c x y) ty v:=fun _ w L pos after g f _=>by
 subst F;simp [execOp,f.ev h,f.ev E,asBool]
def Ft {c:Operand} {p:Prop} [Decidable p] {u:Value} (f:ev l c=some (.bool (decide p))) (h:ev l x=some u) (E:p):BA P n l S (.pick c x y) ty u:=Bc f h (decide_eq_true E)
def F0 {c:Operand} {p:Prop} [Decidable p] {v:Value} (f:ev l c=some (.bool (decide p))) (h:ev l y=some v) (E : ¬p):BA P n l S (.pick c x y) ty v:=By f h (decide_eq_false E)
def OR {i:Nat} {v:Value} {vs:lV} (f:ev l x=some (.tuple vs.toArray)) (h:vs[i]? = some v):BA P n l S (.extract x i) ty v:=fun _ w E pos after g F _=>by
 simp [execOp,F.ev f,Instr.extract,h]
def OS (T:TabOk P tab) {sz:Nat} {pt:Bool} (f:AD tab t=some (.str,sz)) (h:ev l x=some (str a)):BA P n l S (.call ⟨.builtin .len,#[x],#[t]⟩) ty (.int .i64 a.length):=fun _ w E pos after g F _=>by
 have L:P.underlying t=some .string:=(T _ _ _ f).under;have M:(⟨a.toArray⟩:ByteArray).size=a.length:=by simp [ByteArray.size]
 simp [execOp,resolve,invoke,builtin,Builtin.len_,F.ev h,AK L,bG,goInt,M]
def C3 (T:TabOk P tab) {e sz:Nat} {p:oA} {len cap:Nat} (f:AD tab t=some (.slice e,sz)) (h:ev l x=some (.slice p len cap)):BA P n l S (.call ⟨.builtin .len,#[x],#[t]⟩) ty (.int .i64 len):=fun _ w E pos after g F _=>by
 have L:P.underlying t=some (.slice e):=(T _ _ _ f).under;simp [execOp,resolve,invoke,builtin,Builtin.len_,F.ev h,AK L,bG,goInt]
end strs
end pur
def Blk (w:wD) (b:Nat) (vs:lV):Prop:= ∃ty,w.heap[b]? = some (.cells vs.toArray ty (0,0))
def Blk.lt {w:wD} {b:Nat} {vs:lV} (h:Blk w b vs):b<w.heap.size:=by
 obtain ⟨ty,h⟩:=h;rcases bQ b w.heap.size with f|f
 . exact f
 . rw [cJ f] at h;cases h
def Blk.cell {w:wD} {b i:Nat} {vs:lV} {v:Value} (h:Blk w b vs) (f:vs[i]? = some v):w.cell? ⟨b,i,none⟩=some v:=by
 obtain ⟨ty,h⟩:=h;simp [World.cell?,h,f]
def Blk.row {w:wD} {b:Nat} {vs:lV} (h:Blk w b vs):Row w ⟨b,0,none⟩ vs:=fun i v f=>by
 have:(⟨b,0,none⟩:Addr).add i=⟨b,i,none⟩:=by unfold cU;by_cases E:i=0<;>simp [E]
 rw [this];exact h.cell f
def Blk.free {w:wD} {b o:Nat} {vs:lV} (h:Blk w b vs):w.frozen? ⟨b,o,none⟩=false:=by
 obtain ⟨ty,h⟩:=h;simp [World.frozen?,h]
def Blk.ext {w w':wD} {b:Nat} {vs:lV} (h:Blk w b vs) (e:Ext w w'):Blk w' b vs:=by
 have f:=h.lt;obtain ⟨ty,h⟩:=h;exact ⟨ty,by rw [e.block f];exact h⟩
def Blk.fr {S:nP} {w w':wD} {b:Nat} {vs:lV} (h:Blk w b vs) (e:Fr S w w') (f : ¬S b):Blk w' b vs:=by
 have E:=h.lt;obtain ⟨ty,h⟩:=h;exact ⟨ty,by rw [e.block b E f];exact h⟩
def Blk.set {w:wD} {b i:Nat} {vs:lV} (h:Blk w b vs) (v:Value):Blk (w.setCell ⟨b,i,none⟩ v) b (vs.set i v):=by
 have f:=h.lt;obtain ⟨ty,h⟩:=h;refine ⟨ty,?_⟩;simp [World.setCell,Array.getElem?_modify,h]
def Row.at {w:wD} {b o i:Nat} {vs:lV} {v:Value} (h:Row w ⟨b,o,none⟩ vs) (f:vs[i]? = some v):w.cell? ⟨b,o+i,none⟩=some v:=by
 have:=h i v f;have e:(⟨b,o,none⟩:Addr).add i=⟨b,o+i,none⟩:=by unfold cU;by_cases E:i=0<;>simp [E]
 rwa [e] at this
def Row.at0 {w:wD} {b o:Nat} {vs:lV} {v:Value} (h:Row w ⟨b,o,none⟩ vs) (f:vs[0]? = some v):w.cell? ⟨b,o,none⟩=some v:=h.at f
def MZ (p:Addr) (i:Nat):(p.add i).block=p.block:=by unfold cU;split<;>rfl
def SR {w:wD} {p:Addr} {v:Value} (h:w.cell? p=some v):p.spot=none:=by
 unfold World.cell? at h;split at h
 . cases hs:p.spot with
   | none=>rfl
   | some q=>simp [hs] at h
 . cases h
def Row.ext {w w':wD} {p:Addr} {vs:lV} (h:Row w p vs) (e:Ext w w'):Row w' p vs:=fun i v E=>by
 have f:=h i v E;have F:=Cb f;rw [Below.cell e F];exact f
def Row.fr {S:nP} {w w':wD} {p:Addr} {vs:lV} (h:Row w p vs) (e:Fr S w w') (E : ¬S p.block):Row w' p vs:=fun i v F=>by
 have f:=h i v F;have L:=Cb f;rw [World.cell?_of_block (w:=w) (e.block _ L (by rw [MZ];exact E))];exact f
structure New (w w1:wD) (b:Nat) (vs:lV):Prop where
 pos:b=w.heap.size
 blk:Blk w1 b vs
 ext:Ext w w1
 size:w1.heap.size=b+1
def ET (w:wD) (vs:lV) (ty:TypeId):New w (w.alloc (.cells vs.toArray ty (0,0))) w.heap.size vs:=
 ⟨rfl,⟨ty,by show (w.heap.push _)[w.heap.size]? = _;simp⟩,(Ext.refl w).alloc _,by show (w.heap.push _).size=_;simp⟩
def Bi:lV->Nat->lV->lV
 | vs,_,[]=>vs
 | vs,o,u::r=>Bi (vs.set o u) (o+1) r
structure Put (w w1:wD) (b:Nat) (vs:lV):Prop where
 blk:Blk w1 b vs
 fr:Fr (· = b) w w1
 size:w1.heap.size=w.heap.size
def Value.one:Value->Bool
 | .agg _ | .tuple _=>false
 | _=>true
def M0 {P:Program} {w:wD} {b o:Nat} {vs:lV} (h:Blk w b vs) (f:o<vs.length) {v:Value} (E:Value.one v=true) {α:Type} (k:Sem α) :
 (Sem.store .plain ⟨b,o,none⟩ v k).run P w=k.run P (w.setCell ⟨b,o,none⟩ v):=by
 have F:=h.cell (aY f);have L:=h.free (o:=o);cases v<;>first|(simp [Value.one] at E;done)|simp [Sem.run,F,L]
def FD {P:Program} : ∀(us:lV) (w:wD) (b o i:Nat) (vs:lV),Blk w b vs->o+i+us.length<=vs.length->us.all Value.one=true ->
 ∃f,(storeCells ⟨b,o,none⟩ us i).run P w = .ok () f/\Put w f b (Bi vs (o+i) us)
 | [],w,b,o,i,vs,h,_,_=>⟨w,rfl,h,Fr.refl _ _,rfl⟩
 | u::r,w,b,o,i,vs,h,L,E=>by
  simp only [aV] at L;simp only [List.all_cons,bB] at E;have M:(⟨b,o,none⟩:Addr).add i=⟨b,o+i,none⟩:=by unfold cU;by_cases N:i=0<;>simp [N]
  have e:(storeCells ⟨b,o,none⟩ (u::r) i).run P w=(storeCells ⟨b,o,none⟩ r (i+1)).run P (w.setCell ⟨b,o+i,none⟩ u):=by
   simp only [storeCells,store,M,bind,Sem.bind];exact M0 h (by omega) E.1 _
  obtain ⟨f,h1,F⟩:=FD (P:=P) r _ b o (i+1) _ (h.set (i:=o+i) u) (by simp;omega) E.2;refine ⟨f,by rw [e,h1],F.blk,((Fr.refl (· = b) w).setCell ⟨b,o+i,none⟩ u (bC rfl)).trans F.fr,?_⟩;rw [F.size];simp [World.setCell]
def B0 {o:Oper} {y:Nat->Option Bool} (h:o.guard=none):Region.wanted o y=true:=by unfold Region.wanted;rw [h]
section seqs
variable {P:Program} {n:Nat} {ops:Array Oper} {Q:Exit->Act->wD->Prop} {rest:List Oper} {l:Sl} {w:wD} {tab:Tab}
 {d:Nat} {ty:TypeId} {pos:String} {after:Array Edge}
def Ah (h:QW n Q .normal l w):LW P n ops Q [] l w:=h
def A0 {op:Op} {v:Value} (h:BA P n l (fun x=>x=w) op ty v) (E:bM d n=true) (k:LW P n ops Q rest ((d,v)::l) w) :
 LW P n ops Q (⟨some d,op,ty,pos,after,none⟩::rest) l w:=fun a f=>by
 unfold wpList;rw [AU (B0 rfl)];left;unfold Oper.wp;rw [h a w _ _ _ _ f rfl];exact k _ (f.put E v)
def BP (ops:Array Oper) (j:Nat):Option Nat:=(ops.toList[j]?).bind (·.dst)
def Is {n:Nat} {l:Sl} {a:Act} (E:Env n l a) {ops:Array Oper} {j dj:Nat} {f b:Bool} {o:Oper} (F:o.guard=some (j,f)) (L:BP ops j=some dj) (M:bM dj n=true) (N:Ck l dj=some (.bool b)) :
 Region.wanted o (yielded ops a.tmps)=(b==f):=by
 have h1:=E.has dj _ N;have h:dj<a.tmps.size:=by rw [E.size];exact cE M
 have O:a.tmps[dj]? = some (.bool b):=by
  rw [Array.getD_eq_getD_getElem?,Array.getElem?_eq_getElem h] at h1;rw [Array.getElem?_eq_getElem h];simpa using h1
 have U:(ops[j]?).bind (·.dst)=some dj:=by simpa [BP] using L
 unfold Region.wanted yielded;simp only [F,U,Option.bind_some,O];cases b<;>cases f<;>rfl
def AP {op:Op} {j dj:Nat} {f b:Bool} (E:BP ops j=some dj) (F:bM dj n=true) (L:Ck l dj=some (.bool b)) (M:(b==f)=false) (N:bM d n=true)
 (k:LW P n ops Q rest ((d,undef)::l) w):LW P n ops Q (⟨some d,op,ty,pos,after,some (j,f)⟩::rest) l w:=fun a h=>by
 unfold wpList;rw [Is h rfl E F L,M];exact k _ (h.put N undef)
def A2 {op:Op} {j dj:Nat} {f b:Bool} (E:BP ops j=some dj) (F:bM dj n=true) (L:Ck l dj=some (.bool b)) (M:(b==f)=true)
 (k:LW P n ops Q (⟨some d,op,ty,pos,after,none⟩::rest) l w):LW P n ops Q (⟨some d,op,ty,pos,after,some (j,f)⟩::rest) l w:=fun a h=>by
 have:=k a h;unfold wpList at this ⊢;rw [AU (by rw [Is h rfl E F L,M])];rw [AU (B0 rfl)] at this;exact this
section guards
variable {op:Op} {j dj:Nat} {p:Prop} [Decidable p]
def Bh (f:BP ops j=some dj) (h:bM dj n=true) (E:Ck l dj=some (.bool (decide p))) (F : ¬p)
 (k:LW P n ops Q (⟨some d,op,ty,pos,after,none⟩::rest) l w):LW P n ops Q (⟨some d,op,ty,pos,after,some (j,false)⟩::rest) l w:=A2 f h E (by simp [F]) k
def Bz (f:BP ops j=some dj) (h:bM dj n=true) (E:Ck l dj=some (.bool (decide p))) (F:p) (L:bM d n=true)
 (k:LW P n ops Q rest ((d,undef)::l) w):LW P n ops Q (⟨some d,op,ty,pos,after,some (j,false)⟩::rest) l w:=AP f h E (by simp [F]) L k
end guards
def Cr (P:Program) (n:Nat) (l:Sl) (op:Op) (ty:TypeId) (w:wD) (K:Option Value->wD->Prop):Prop:=
 ∀a dst pos after g (next:Act->wD->Prop) (Q:Exit->Act->wD->Prop),Env n l a->(∀v w',K (some v) w'->next (a.put dst v) w')->(∀w',K none w'->next (a.put dst undef) w')->(⟨dst,op,ty,pos,after,g⟩:Oper).wp P a w next Q
def Au {op:Op} {K:Option Value->wD->Prop} (F:Cr P n l op ty w K) (L:bM d n=true) (k : ∀v f,K (some v) f->LW P n ops Q rest ((d,v)::l) f) (M : ∀f,¬K none f) :
 LW P n ops Q (⟨some d,op,ty,pos,after,none⟩::rest) l w:=fun a E=>by
 unfold wpList;rw [AU (B0 rfl)];left;exact F a _ _ _ _ _ _ E (fun v f N=>k v f N _ (E.put L v)) (fun f h=>absurd h (M f))
def DA {op:Op} {K:Option Value->wD->Prop} (F:Cr P n l op ty w K) (k : ∀v f,K v f->LW P n ops Q rest l f) :
 LW P n ops Q (⟨none,op,ty,pos,after,none⟩::rest) l w:=fun a E=>by
 unfold wpList;rw [AU (B0 rfl)];left;exact F a _ _ _ _ _ _ E (fun v f L=>k _ f L _ E) (fun f h=>k _ f h _ E)
end seqs
section does
variable {P:Program} {n:Nat} {l:Sl} {w:wD} {tab:Tab} {ty:TypeId}
def XU (w:wD) (vs:lV):Option Value->wD->Prop
 | some v,w1=> ∃b,v = .pointer (some ⟨b,0,none⟩)/\New w w1 b vs
 | none,_=>False
def Uu {x:Operand} {t:Nat} {v:Value} {vs:lV} (hx:ev l x=some v) (hv:v.cells=vs.toArray):Cr P n l (.box t x) ty w (XU w vs):=fun a dst pos after g next Q ha hn _=>by
 have e:(execOp a.eval ⟨dst,.box t x,ty,pos,after,g⟩).run P w = .ok (.value (.pointer (some ⟨w.heap.size,0,none⟩))) (w.alloc (.cells vs.toArray t (0,0))):=by
  simp [execOp,ha.ev hx,Instr.box,newVar,newRow,newObj,Sem.run,hv,bind,Sem.bind,pure]
 unfold Oper.wp;rw [e];exact hn _ _ ⟨_,rfl,ET _ _ _⟩
abbrev Ey:=List (Nat×lV)
def Cy (P:Program):Ey->Prop
 | []=>True
 | p::r=>((P.info? p.1).bind (·.zero)).map Value.cells=some p.2.toArray/\Cy P r
def CT:Ey->Nat->Option lV
 | [],_=>none
 | p::r,t=>match cZ p.1 t with
  | true=>some p.2
  | false=>CT r t
def Fd {zt:Ey} (h:Cy P zt) {t:Nat} {vs:lV} (f:CT zt t=some vs) : ∃i v,P.info? t=some i/\i.zero=some v/\v.cells=vs.toArray:=by
 induction zt with
 | nil=>simp [CT] at f
 | cons p r E=>
  simp only [CT] at f;split at f
  . rename_i F;have:=cQ F;simp only [bK] at f;subst f this;have h1:=h.1;cases hi:P.info? p.1 with
    | none=>rw [hi] at h1;simp at h1
    | some i=>
     rw [hi] at h1;cases hz:i.zero with
     | none=>simp [hz] at h1
     | some v=>exact ⟨i,v,rfl,hz,by simpa [hz] using h1⟩
  . exact E h.2 f
def C4 {zt:Ey} {t:Nat} {vs:lV} (Z:Cy P zt) (hz:CT zt t=some vs):Cr P n l (.alloc t) ty w (XU w vs):=fun a dst pos after g next Q ha hn _=>by
 obtain ⟨i,v,h1,h2,h3⟩:=Fd Z hz;have e:(execOp a.eval ⟨dst,.alloc t,ty,pos,after,g⟩).run P w = .ok (.value (.pointer (some ⟨w.heap.size,0,none⟩))) (w.alloc (.cells vs.toArray t (0,0))):=by
  simp [execOp,Instr.alloc,zeroValue,typeInfo,program,newVar,newRow,newObj,Sem.run,h1,h2,h3,bind,Sem.bind,pure]
 unfold Oper.wp;rw [e];exact hn _ _ ⟨_,rfl,ET _ _ _⟩
def Zh (w:wD) (b:Nat) (vs:lV):Option Value->wD->Prop
 | none,w1=>Put w w1 b vs
 | some _,_=>False
def GO {x y:Operand} {t sz b o:Nat} {s:Sk} {v:Value} {vs us:lV} (T:TabOk P tab) (ht:AD tab t=some (s,sz)) (hx:ev l x=some (.pointer (some ⟨b,o,none⟩))) (hy:ev l y=some v)
 (hv:v.cells=us.toArray) (hl:us.length=sz) (h1:us.all Value.one=true) (hb:Blk w b vs) (ho:cY (o+us.length) vs.length=true):Cr P n l (.store t x y) ty w (Zh w b (Bi vs o us)):=fun a dst pos after g next Q ha _ hn=>by
 obtain ⟨w1,e1,e2⟩:=FD (P:=P) us w b o 0 vs hb (by simpa using ho) h1;have e:(execOp a.eval ⟨dst,.store t x y,ty,pos,after,g⟩).run P w = .ok .skip w1:=by
  have hcs:v.cells.toList=us:=by rw [hv]
  have hsz:v.cells.size=sz:=by rw [hv];simpa using hl
  simp only [execOp,ha.ev hx,ha.ev hy,Instr.storeAt,Instr.sureAddr,bL,bW,bG,storeVar,C2 (T _ _ _ ht),hsz,hcs,e1];simp only [ne_eq,not_true,if_false,bL,bW,bG,e1]
 unfold Oper.wp;rw [e];exact hn _ e2
def Fl (P:Program) (f:FuncId):Bool:=match P.funcs[f]? with
 | some fn=> !(fn.name == "runtime.NumGoroutine")&&fn.body.isSome
 | none=>false
def GP {f:FuncId} {args:Array Value} (E:Fl P f=true) (w:wD):(callFunc f args).run P w = .ok (.enter f args) w:=by
 unfold Fl at E
 split at E
 . rename_i fn F
   simp only [bB,Bool.not_eq_true',Option.isSome_iff_ne_none] at E
   have L:fn.body.isNone=false:=by cases h:fn.body<;>simp_all
   have h1:fn.name ≠ "runtime.NumGoroutine" := by simpa using E.1
   simp [callFunc,program,Sem.run,F,bind,Sem.bind,h1,E.2,pure]
 . cases E
def Zc (R:Ending->wD->Prop):Option Value->wD->Prop
 | some v,w1=>R (.returned v) w1
 | none,_=>False
def Bb {f:FuncId} {xs:List Operand} {tys:Array TypeId} {vs:lV} {R:Ending->wD->Prop} (hb:Fl P f=true) (hxs:evs l xs=some vs) (C:Calls P f vs.toArray w R)
 (hR : ∀e w1,R e w1 -> ∃v,e = .returned v):Cr P n l (.call ⟨.value (.func f),xs.toArray,tys⟩) ty w (Zc R):=fun a dst pos after g next Q ha hn _=>by
 have hargs:xs.map a.eval=vs:=ha.evs hxs;have e:(execOp a.eval ⟨dst,.call ⟨.value (.func f),xs.toArray,tys⟩,ty,pos,after,g⟩).run P w = .ok (.enter f vs.toArray) w:=by
  simp only [execOp,resolve,Act.eval,Deferred.ofValue,bL,bW,bG,invoke];rw [GP hb];simp [<-hargs]
 unfold Oper.wp;rw [e];refine Calls.mono C fun e w1 h=>?_
 obtain ⟨v,rfl⟩:=hR e w1 h;exact hn v w1 h
def B4 {f:FuncId} {x:Operand} {fi ca:lV} {xs:List Operand} {tys:Array TypeId} {vs:lV} {R:Ending->wD->Prop} (hb:Fl P f=true) (hx:ev l x=some (.func (.func f) fi.toArray ca.toArray)) (hxs:evs l xs=some vs) (C:Calls P f (fi++vs++ca).toArray w R)
 (hR : ∀e w1,R e w1 -> ∃v,e = .returned v):Cr P n l (.call ⟨.value x,xs.toArray,tys⟩) ty w (Zc R):=fun a dst pos after g next Q ha hn _=>by
 have hargs:xs.map a.eval=vs:=ha.evs hxs;have e:(execOp a.eval ⟨dst,.call ⟨.value x,xs.toArray,tys⟩,ty,pos,after,g⟩).run P w = .ok (.enter f (fi++vs++ca).toArray) w:=by
  simp only [execOp,resolve,ha.ev hx,Deferred.ofValue,bL,bW,bG,invoke];rw [GP hb];simp [<-hargs]
 unfold Oper.wp;rw [e];refine Calls.mono C fun e w1 h=>?_
 obtain ⟨v,rfl⟩:=hR e w1 h;exact hn v w1 h
end does
inductive Sch where
 | done
 | pure (i:Nat) (r:Sch)
 | fork (i:Nat) (x r:Sch)
 | none
def Sch.alts:Sch->List Nat
 | .fork i _ r=>i::r.alts
 | _=>[]
def Sch.ok (ops:Array Oper):Bool->Sch->Nat->Array Bool->Bool
 | true,.done,_,listed=>(bU .any ops listed).isEmpty
 | true,.pure i r,f+1,listed=>(bU .any ops listed).contains i&&Region.free .any ops listed i&&Sch.ok ops true r f (listed.setIfInBounds i true)
 | true,.fork i x r,f+1,listed=>(bU .any ops listed).all (fun j=>(i::r.alts).contains j)&&Sch.ok ops true x f (listed.setIfInBounds i true)&&Sch.ok ops false r (f+1) listed && !(bU .any ops listed).isEmpty
 | false,.fork i x r,f+1,listed=>Sch.ok ops true x f (listed.setIfInBounds i true)&&Sch.ok ops false r (f+1) listed
 | false,.none,_,_=>true
 | _,_,_,_=>false
def HW (P:Program) (ops:Array Oper) (Q:Exit->Act->wD->Prop) (S:wD->Prop):Sch->Act->wD->Prop
 | .done,a,w=>Q .normal a w
 | .pure i r,a,w=> ∃o v,ops.toList[i]? = some o/\YieldsIf P ops S o v a/\HW P ops Q S r (a.put o.dst v) w
 | .fork i x r,a,w=>wpOp P ops Q i (fun a' w'=>S w'/\HW P ops Q S x a' w') a w/\HW P ops Q S r a w
 | .none,_,_=>True
def DV (Q:Exit->Act->wD->Prop):Prop:= ∀d v c a w,Q (.panic c) (Act.put a d v) w->Q (.panic c) a w
def An {P:Program} {fn:Func} {R:Ending->wD->Prop}:DV (bodyPost P fn R):=fun d v c a w h=>by
 cases d<;>exact h
def Aa {K:Act->wD->Prop} {Q:Exit->Act->wD->Prop} (h:DV Q):DV (Exit.then K Q):=h
def Al {i:Nat} {Q:Exit->Act->wD->Prop} (h:DV Q):DV (Exit.inBlock i Q):=h
def HW.any {P:Program} {ops:Array Oper} {Q:Exit->Act->wD->Prop} {S:wD->Prop} (O:Region.noSelect ops=true) (U:DV Q) :
 ∀(s:Sch) (f:Nat) (E:Array Bool) (a:Act) (w:wD),S w->HW P ops Q S s a w ->
  (Sch.ok ops true s f E=true->wpAnyH P .any ops Q S f E a w) /\
  (Sch.ok ops false s f E=true -> ∀i∈s.alts,∀V,f=V+1->wpOp P ops Q i (fun N w'=>S w'/\wpAnyH P .any ops Q S V (E.setIfInBounds i true) N w') a w)
 | .done,f,E,a,w,L,h=>⟨fun F=>wpAnyH_done (by simpa [Sch.ok] using F) h f,fun F=>by simp [Sch.ok] at F⟩
 | .none,f,E,a,w,L,h=>⟨fun F=>by simp [Sch.ok] at F,fun F=>by simp [Sch.alts]⟩
 | .pure i r,0,E,a,w,L,h=>⟨fun F=>by simp [Sch.ok] at F,fun F=>by simp [Sch.ok] at F⟩
 | .pure i r,f+1,E,a,w,L,h=>⟨fun F=>by
  simp only [Sch.ok,bB] at F;obtain ⟨o,v,ho,hy,X⟩:=h;exact wpAnyH_take (by simpa using ho) O F.1.2 F.1.1 (fun c a w=>U o.dst v c a w) hy L ((HW.any O U r f _ _ w L X).1 F.2),fun F=>by simp [Sch.ok] at F⟩
 | .fork i x r,0,E,a,w,L,h=>⟨fun F=>by simp [Sch.ok] at F,fun F=>by simp [Sch.ok] at F⟩
 | .fork i x r,f+1,E,a,w,L,h=>by
  have key:Sch.ok ops true x f (E.setIfInBounds i true)=true->wpOp P ops Q i (fun N w'=>S w'/\wpAnyH P .any ops Q S f (E.setIfInBounds i true) N w') a w:=fun F=>
   wpOp_mono (fun N w' Y=>⟨Y.1,(HW.any O U x f _ N w' Y.1 Y.2).1 F⟩) h.1
  have X:=HW.any O U r (f+1) E a w L h.2;refine ⟨fun F=>?_,fun F j M V hf=>?_⟩
  . simp only [Sch.ok,bB] at F;obtain ⟨⟨⟨h1,h2⟩,h3⟩,h4⟩:=F;refine wpAnyH_all (rs:=bU .any ops E) rfl (by intro e;simp [e] at h4) (fun j M=>?_);have:=cX.1 h1 j M;simp only [List.contains_eq_mem,bR,decide_eq_true_eq] at this;rcases this with rfl|Z
    . exact key h2
    . exact X.2 h3 j Z f rfl
  . simp only [Sch.ok,bB] at F;obtain rfl:f=V:=by omega
    simp only [Sch.alts,bR] at M;rcases M with rfl|M
    . exact key F.1
    . exact X.2 F.2 j M f rfl
def DW (P:Program) (n:Nat) (ops:Array Oper) (Q:Exit->Act->wD->Prop) (S:wD->Prop) (s:Sch) (l:Sl) (w:wD):Prop:= ∀a,Env n l a->HW P ops Q S s a w
section draws
variable {P:Program} {n:Nat} {ops:Array Oper} {Q:Exit->Act->wD->Prop} {S:wD->Prop} {l:Sl} {w:wD}
 {d i:Nat} {ty:TypeId} {pos:String} {after:Array Edge} {r x:Sch}
def RY {L:Nat} {f:List Oper} (S:wD->Prop) (s:Sch) (M:P.follows .mixedOrders=true) (F:(Region.noSelect f.toArray&&Sch.ok f.toArray true s f.length (Array.replicate f.length false))=true) (N:DV Q)
 (h : ∀E,Ext w E->E.heap=w.heap->S E/\DW P n f.toArray Q S s l E):CW P n (.region L f.toArray true) Q l w:=fun a O=>by
 simp only [bB] at F;obtain ⟨h1,U⟩:=h w.drew (Ext.refl w).drew rfl;refine wp_region_held (S:=S) M ?_;have:=(HW.any F.1 N s f.length (Array.replicate f.length false) a w.drew h1 (U a O)).1 F.2;simpa using this
def RZ (h:QW n Q .normal l w):DW P n ops Q S .done l w:=h
def Lc:DW P n ops Q S .none l w:=fun _ _=>trivial
def DJ {op:Op} {v:Value} (h:ops.toList[i]? = some ⟨some d,op,ty,pos,after,none⟩) (E:BA P n l S op ty v) (F:bM d n=true) (k:DW P n ops Q S r ((d,v)::l) w) :
 DW P n ops Q S (.pure i r) l w:=fun a f=>
 ⟨_,v,h,bC ⟨rfl,fun w L=>E a w _ _ _ _ f L⟩,k _ (f.put F v)⟩
def Ld {op:Op} {K:Option Value->wD->Prop} (M:ops.toList[i]? = some ⟨some d,op,ty,pos,after,none⟩) (N:Cr P n l op ty w K) (O:bM d n=true)
 (k : ∀v f,K (some v) f->S f/\DW P n ops Q S x ((d,v)::l) f) (U : ∀f,¬K none f) (V:DW P n ops Q S r l w):DW P n ops Q S (.fork i x r) l w:=fun a E=>by
 refine ⟨?_,V a E⟩;have F:ops[i]? = some ⟨some d,op,ty,pos,after,none⟩:=by simpa using M
 unfold wpOp;rw [F];simp only;rw [AU (B0 rfl)];left;exact N a _ _ _ _ _ _ E (fun v f L=>⟨(k v f L).1,(k v f L).2 _ (E.put O v)⟩) (fun f h=>absurd h (U f))
end draws
def aB {P:Program} {n:Nat} {c:Operand} {x y:Code} {Q:Exit->Act->wD->Prop} {l:Sl} {w:wD} (h:CW P n (.cond c x y) Q l w):CW P n (.cond c x y) Q l w:=h
def aC {P:Program} {n d:Nat} {ops:Array Oper} {Q:Exit->Act->wD->Prop} {op:Op} {ty:TypeId} {pos:String} {after:Array Edge} {rest:List Oper} {l:Sl} {w:wD} (h:LW P n ops Q (⟨some d,op,ty,pos,after,none⟩::rest) l w):LW P n ops Q (⟨some d,op,ty,pos,after,none⟩::rest) l w:=h
def ZY {P:Program} {n d:Nat} {ops:Array Oper} {Q:Exit->Act->wD->Prop} {op:Op} {ty:TypeId} {pos:String} {after:Array Edge} {g:Nat×Bool} {rest:List Oper} {l:Sl} {w:wD} (h:LW P n ops Q (⟨some d,op,ty,pos,after,some g⟩::rest) l w):LW P n ops Q (⟨some d,op,ty,pos,after,some g⟩::rest) l w:=h
attribute [irreducible] CW LW QW DW BA Cr
open Go.Proofs
def tab:Tab:=[(1,.func,1),
 (2,.int .i64,1),
 (3,.int .i64,1),
 (4,.bool,1),
 (5,.int .u8,1),
 (6,.int .u8,1),
 (7,.struct [(0,2),(1,3),(2,4),(3,6)],4),
 (8,.struct [(0,2),(1,3),(2,4),(3,6)],4),
 (9,.str,1),
 (10,.str,1),
 (11,.str,1),
 (12,.int .u64,1),
 (13,.struct [(0,9),(1,12)],2),
 (14,.struct [(0,9),(1,12)],2),
 (15,.ptr 307,1),
 (16,.ptr 310,1),
 (17,.ptr 317,1),
 (18,.struct [(0,17)],1),
 (19,.struct [(0,17)],1),
 (20,.iface,1),
 (21,.int .i32,1),
 (22,.slice 40,1),
 (23,.func,1),
 (24,.func,1),
 (25,.func,1),
 (26,.struct [(0,3),(1,3),(2,3)],3),
 (27,.struct [(0,3),(1,3),(2,3)],3),
 (28,.slice 93,1),
 (29,.slice 90,1),
 (30,.slice 32,1),
 (31,.struct [(0,5),(1,3),(2,9),(3,30)],4),
 (32,.struct [(0,5),(1,3),(2,9),(3,30)],4),
 (33,.struct [(0,28),(1,29),(2,32)],6),
 (34,.struct [(0,28),(1,29),(2,32)],6),
 (35,.struct [(0,9),(1,3),(2,3),(3,27),(6,34)],12),
 (36,.struct [(0,9),(1,3),(2,3),(3,27),(6,34)],12),
 (37,.func,1),
 (38,.struct [(0,3),(1,3),(2,3)],3),
 (39,.struct [(0,9),(1,3),(2,3),(3,38),(6,34)],12),
 (40,.struct [(0,9),(1,3),(2,3),(3,38),(6,34)],12),
 (41,.func,1),
 (42,.int .i64,1),
 (44,.func,1),
 (45,.slice 36,1),
 (46,.func,1),
 (47,.func,1),
 (49,.func,1),
 (50,.func,1),
 (52,.func,1),
 (53,.func,1),
 (54,.func,1),
 (56,.func,1),
 (57,.func,1),
 (58,.func,1),
 (59,.int .u16,1),
 (60,.map 3 4,1),
 (61,.func,1),
 (62,.func,1),
 (64,.func,1),
 (65,.func,1),
 (66,.ptr 69,1),
 (67,.slice 5,1),
 (68,.struct [(0,66),(1,67)],2),
 (69,.struct [(0,66),(1,67)],2),
 (70,.func,1),
 (71,.iface,1),
 (72,.iface,1),
 (74,.func,1),
 (75,.func,1),
 (76,.func,1),
 (77,.func,1),
 (78,.func,1),
 (79,.func,1),
 (81,.func,1),
 (83,.func,1),
 (85,.func,1),
 (87,.func,1),
 (88,.func,1),
 (89,.struct [(0,9),(1,28),(2,32)],6),
 (90,.struct [(0,9),(1,28),(2,32)],6),
 (91,.func,1),
 (92,.struct [(0,9),(1,5),(2,3)],3),
 (93,.struct [(0,9),(1,5),(2,3)],3),
 (94,.func,1),
 (95,.func,1),
 (96,.func,1),
 (98,.func,1),
 (99,.slice 150,1),
 (100,.func,1),
 (101,.slice 207,1),
 (102,.func,1),
 (103,.func,1),
 (104,.func,1),
 (105,.slice 109,1),
 (107,.func,1),
 (108,.struct [(0,3),(1,3)],2),
 (109,.struct [(0,3),(1,3)],2),
 (110,.func,1),
 (111,.func,1),
 (112,.struct [(0,69)],2),
 (113,.struct [(0,69)],2),
 (114,.func,1),
 (115,.func,1),
 (116,.func,1),
 (117,.slice 9,1),
 (118,.slice 123,1),
 (119,.func,1),
 (120,.ptr 36,1),
 (121,.ptr 3,1),
 (122,.struct [(0,9),(1,121)],2),
 (123,.struct [(0,9),(1,121)],2),
 (124,.func,1),
 (125,.func,1),
 (126,.func,1),
 (127,.func,1),
 (128,.ptr 5,1),
 (129,.func,1),
 (130,.slice 3,1),
 (131,.func,1),
 (133,.func,1),
 (134,.func,1),
 (136,.func,1),
 (137,.func,1),
 (139,.func,1),
 (141,.func,1),
 (142,.func,1),
 (143,.func,1),
 (144,.func,1),
 (145,.func,1),
 (146,.map 9 4,1),
 (147,.func,1),
 (148,.func,1),
 (149,.struct [(0,3),(1,130),(2,42),(3,9)],4),
 (150,.struct [(0,3),(1,130),(2,42),(3,9)],4),
 (151,.func,1),
 (152,.func,1),
 (153,.func,1),
 (154,.func,1),
 (155,.func,1),
 (156,.func,1),
 (157,.func,1),
 (158,.func,1),
 (159,.array 3 3,3),
 (160,.slice 130,1),
 (161,.struct [(0,160),(1,130),(2,130)],3),
 (162,.struct [(0,160),(1,130),(2,130)],3),
 (164,.func,1),
 (165,.func,1),
 (166,.func,1),
 (167,.func,1),
 (168,.ptr 113,1),
 (169,.func,1),
 (171,.func,1),
 (172,.func,1),
 (173,.func,1),
 (174,.func,1),
 (175,.ptr 181,1),
 (176,.func,1),
 (177,.func,1),
 (178,.slice 223,1),
 (179,.map 9 5,1),
 (180,.struct [(0,178),(1,3),(2,3),(3,179),(4,3),(5,42)],6),
 (181,.struct [(0,178),(1,3),(2,3),(3,179),(4,3),(5,42)],6),
 (182,.ptr 186,1),
 (183,.func,1),
 (184,.slice 231,1),
 (185,.struct [(0,184),(1,3),(2,3),(3,3),(4,3)],5),
 (186,.struct [(0,184),(1,3),(2,3),(3,3),(4,3)],5),
 (187,.func,1),
 (188,.func,1),
 (189,.func,1),
 (190,.func,1),
 (192,.func,1),
 (193,.func,1),
 (194,.func,1),
 (196,.func,1),
 (197,.func,1),
 (198,.func,1),
 (199,.func,1),
 (200,.func,1),
 (201,.func,1),
 (202,.func,1),
 (203,.func,1),
 (204,.func,1),
 (205,.func,1),
 (206,.func,1),
 (207,.struct [(0,3),(1,130),(2,42),(3,9)],4),
 (208,.func,1),
 (209,.func,1),
 (210,.func,1),
 (211,.func,1),
 (212,.func,1),
 (213,.func,1),
 (214,.int .u64,1),
 (215,.func,1),
 (217,.func,1),
 (218,.func,1),
 (219,.func,1),
 (220,.func,1),
 (221,.func,1),
 (222,.struct [(0,5),(1,9),(2,3)],3),
 (223,.struct [(0,5),(1,9),(2,3)],3),
 (224,.func,1),
 (225,.func,1),
 (226,.func,1),
 (228,.func,1),
 (229,.func,1),
 (230,.struct [(0,9),(1,3)],2),
 (231,.struct [(0,9),(1,3)],2),
 (232,.func,1),
 (233,.func,1),
 (234,.func,1),
 (235,.func,1),
 (236,.func,1),
 (237,.func,1),
 (238,.func,1),
 (239,.array 24 5,24),
 (240,.int .u64,1),
 (241,.func,1),
 (242,.func,1),
 (244,.func,1),
 (245,.func,1),
 (246,.int .u32,1),
 (248,.func,1),
 (249,.func,1),
 (250,.func,1),
 (251,.func,1),
 (252,.array 43 9,43),
 (253,.func,1),
 (254,.func,1),
 (255,.func,1),
 (256,.func,1),
 (257,.func,1),
 (258,.func,1),
 (259,.func,1),
 (260,.func,1),
 (261,.array 20 240,20),
 (263,.func,1),
 (264,.func,1),
 (265,.func,1),
 (267,.func,1),
 (268,.int .i64,1),
 (270,.func,1),
 (271,.ptr 283,1),
 (272,.func,1),
 (273,.func,1),
 (274,.slice 88,1),
 (275,.struct [(0,32),(4,3),(5,4)],6),
 (276,.struct [(0,32),(4,3),(5,4)],6),
 (277,.func,1),
 (278,.func,1),
 (280,.func,1),
 (281,.func,1),
 (282,.struct [(0,9),(1,9),(2,72)],3),
 (283,.struct [(0,9),(1,9),(2,72)],3),
 (284,.func,1),
 (285,.func,1),
 (286,.func,1),
 (287,.func,1),
 (288,.func,1),
 (289,.slice 276,1),
 (290,.func,1),
 (291,.func,1),
 (292,.func,1),
 (293,.func,1),
 (294,.array 32 5,32),
 (295,.array 64 5,64),
 (297,.struct [(0,5),(1,5)],2),
 (298,.struct [(0,5),(1,5)],2),
 (299,.array 16 298,32),
 (300,.ptr 302,1),
 (301,.struct [(0,9)],1),
 (302,.struct [(0,9)],1),
 (303,.func,1),
 (304,.func,1),
 (306,.struct [(0,17),(1,17),(2,17),(3,9)],4),
 (307,.struct [(0,17),(1,17),(2,17),(3,9)],4),
 (308,.array 0 16,0),
 (311,.int .u8,1),
 (312,.int .u8,1),
 (313,.func,1),
 (314,.int .i32,1),
 (315,.int .i32,1),
 (316,.struct [(0,12),(1,12),(2,246),(3,311),(4,5),(5,5),(6,312),(7,313),(8,128),(9,314),(10,315)],11),
 (317,.struct [(0,12),(1,12),(2,246),(3,311),(4,5),(5,5),(6,312),(7,313),(8,128),(9,314),(10,315)],11)]
def zt:Ey:=[(1,[.nilFunc]),
 (2,[.int .i64 0]),
 (3,[.int .i64 0]),
 (4,[.bool false]),
 (5,[.int .u8 0]),
 (6,[.int .u8 0]),
 (7,[.int .i64 0,.int .i64 0,.bool false,.int .u8 0]),
 (8,[.int .i64 0,.int .i64 0,.bool false,.int .u8 0]),
 (9,[.string ⟨#[]⟩]),
 (10,[.string ⟨#[]⟩]),
 (11,[.string ⟨#[]⟩]),
 (12,[.int .u64 0]),
 (13,[.string ⟨#[]⟩,.int .u64 0]),
 (14,[.string ⟨#[]⟩,.int .u64 0]),
 (15,[.pointer none]),
 (16,[.pointer none]),
 (17,[.pointer none]),
 (18,[.pointer none]),
 (19,[.pointer none]),
 (20,[.nilIface]),
 (21,[.int .i32 0]),
 (22,[.slice none 0 0]),
 (23,[.nilFunc]),
 (24,[.nilFunc]),
 (25,[.nilFunc]),
 (26,[.int .i64 0,.int .i64 0,.int .i64 0]),
 (27,[.int .i64 0,.int .i64 0,.int .i64 0]),
 (28,[.slice none 0 0]),
 (29,[.slice none 0 0]),
 (30,[.slice none 0 0]),
 (31,[.int .u8 0,.int .i64 0,.string ⟨#[]⟩,.slice none 0 0]),
 (32,[.int .u8 0,.int .i64 0,.string ⟨#[]⟩,.slice none 0 0]),
 (33,[.slice none 0 0,.slice none 0 0,.int .u8 0,.int .i64 0,.string ⟨#[]⟩,.slice none 0 0]),
 (34,[.slice none 0 0,.slice none 0 0,.int .u8 0,.int .i64 0,.string ⟨#[]⟩,.slice none 0 0]),
 (35,[.string ⟨#[]⟩,.int .i64 0,.int .i64 0,.int .i64 0,.int .i64 0,.int .i64 0,.slice none 0 0,.slice none 0 0,.int .u8 0,.int .i64 0,.string ⟨#[]⟩,.slice none 0 0]),
 (36,[.string ⟨#[]⟩,.int .i64 0,.int .i64 0,.int .i64 0,.int .i64 0,.int .i64 0,.slice none 0 0,.slice none 0 0,.int .u8 0,.int .i64 0,.string ⟨#[]⟩,.slice none 0 0]),
 (37,[.nilFunc]),
 (38,[.int .i64 0,.int .i64 0,.int .i64 0]),
 (39,[.string ⟨#[]⟩,.int .i64 0,.int .i64 0,.int .i64 0,.int .i64 0,.int .i64 0,.slice none 0 0,.slice none 0 0,.int .u8 0,.int .i64 0,.string ⟨#[]⟩,.slice none 0 0]),
 (40,[.string ⟨#[]⟩,.int .i64 0,.int .i64 0,.int .i64 0,.int .i64 0,.int .i64 0,.slice none 0 0,.slice none 0 0,.int .u8 0,.int .i64 0,.string ⟨#[]⟩,.slice none 0 0]),
 (41,[.nilFunc]),
 (42,[.int .i64 0]),
 (44,[.nilFunc]),
 (45,[.slice none 0 0]),
 (46,[.nilFunc]),
 (47,[.nilFunc]),
 (49,[.nilFunc]),
 (50,[.nilFunc]),
 (52,[.nilFunc]),
 (53,[.nilFunc]),
 (54,[.nilFunc]),
 (56,[.nilFunc]),
 (57,[.nilFunc]),
 (58,[.nilFunc]),
 (59,[.int .u16 0]),
 (60,[.map none]),
 (61,[.nilFunc]),
 (62,[.nilFunc]),
 (64,[.nilFunc]),
 (65,[.nilFunc]),
 (66,[.pointer none]),
 (67,[.slice none 0 0]),
 (68,[.pointer none,.slice none 0 0]),
 (69,[.pointer none,.slice none 0 0]),
 (70,[.nilFunc]),
 (71,[.nilIface]),
 (72,[.nilIface]),
 (74,[.nilFunc]),
 (75,[.nilFunc]),
 (76,[.nilFunc]),
 (77,[.nilFunc]),
 (78,[.nilFunc]),
 (79,[.nilFunc]),
 (81,[.nilFunc]),
 (83,[.nilFunc]),
 (85,[.nilFunc]),
 (87,[.nilFunc]),
 (88,[.nilFunc]),
 (89,[.string ⟨#[]⟩,.slice none 0 0,.int .u8 0,.int .i64 0,.string ⟨#[]⟩,.slice none 0 0]),
 (90,[.string ⟨#[]⟩,.slice none 0 0,.int .u8 0,.int .i64 0,.string ⟨#[]⟩,.slice none 0 0]),
 (91,[.nilFunc]),
 (92,[.string ⟨#[]⟩,.int .u8 0,.int .i64 0]),
 (93,[.string ⟨#[]⟩,.int .u8 0,.int .i64 0]),
 (94,[.nilFunc]),
 (95,[.nilFunc]),
 (96,[.nilFunc]),
 (98,[.nilFunc]),
 (99,[.slice none 0 0]),
 (100,[.nilFunc]),
 (101,[.slice none 0 0]),
 (102,[.nilFunc]),
 (103,[.nilFunc]),
 (104,[.nilFunc]),
 (105,[.slice none 0 0]),
 (107,[.nilFunc]),
 (108,[.int .i64 0,.int .i64 0]),
 (109,[.int .i64 0,.int .i64 0]),
 (110,[.nilFunc]),
 (111,[.nilFunc]),
 (112,[.pointer none,.slice none 0 0]),
 (113,[.pointer none,.slice none 0 0]),
 (114,[.nilFunc]),
 (115,[.nilFunc]),
 (116,[.nilFunc]),
 (117,[.slice none 0 0]),
 (118,[.slice none 0 0]),
 (119,[.nilFunc]),
 (120,[.pointer none]),
 (121,[.pointer none]),
 (122,[.string ⟨#[]⟩,.pointer none]),
 (123,[.string ⟨#[]⟩,.pointer none]),
 (124,[.nilFunc]),
 (125,[.nilFunc]),
 (126,[.nilFunc]),
 (127,[.nilFunc]),
 (128,[.pointer none]),
 (129,[.nilFunc]),
 (130,[.slice none 0 0]),
 (131,[.nilFunc]),
 (133,[.nilFunc]),
 (134,[.nilFunc]),
 (136,[.nilFunc]),
 (137,[.nilFunc]),
 (139,[.nilFunc]),
 (141,[.nilFunc]),
 (142,[.nilFunc]),
 (143,[.nilFunc]),
 (144,[.nilFunc]),
 (145,[.nilFunc]),
 (146,[.map none]),
 (147,[.nilFunc]),
 (148,[.nilFunc]),
 (149,[.int .i64 0,.slice none 0 0,.int .i64 0,.string ⟨#[]⟩]),
 (150,[.int .i64 0,.slice none 0 0,.int .i64 0,.string ⟨#[]⟩]),
 (151,[.nilFunc]),
 (152,[.nilFunc]),
 (153,[.nilFunc]),
 (154,[.nilFunc]),
 (155,[.nilFunc]),
 (156,[.nilFunc]),
 (157,[.nilFunc]),
 (158,[.nilFunc]),
 (159,[.int .i64 0,.int .i64 0,.int .i64 0]),
 (160,[.slice none 0 0]),
 (161,[.slice none 0 0,.slice none 0 0,.slice none 0 0]),
 (162,[.slice none 0 0,.slice none 0 0,.slice none 0 0]),
 (164,[.nilFunc]),
 (165,[.nilFunc]),
 (166,[.nilFunc]),
 (167,[.nilFunc]),
 (168,[.pointer none]),
 (169,[.nilFunc]),
 (171,[.nilFunc]),
 (172,[.nilFunc]),
 (173,[.nilFunc]),
 (174,[.nilFunc]),
 (175,[.pointer none]),
 (176,[.nilFunc]),
 (177,[.nilFunc]),
 (178,[.slice none 0 0]),
 (179,[.map none]),
 (180,[.slice none 0 0,.int .i64 0,.int .i64 0,.map none,.int .i64 0,.int .i64 0]),
 (181,[.slice none 0 0,.int .i64 0,.int .i64 0,.map none,.int .i64 0,.int .i64 0]),
 (182,[.pointer none]),
 (183,[.nilFunc]),
 (184,[.slice none 0 0]),
 (185,[.slice none 0 0,.int .i64 0,.int .i64 0,.int .i64 0,.int .i64 0]),
 (186,[.slice none 0 0,.int .i64 0,.int .i64 0,.int .i64 0,.int .i64 0]),
 (187,[.nilFunc]),
 (188,[.nilFunc]),
 (189,[.nilFunc]),
 (190,[.nilFunc]),
 (192,[.nilFunc]),
 (193,[.nilFunc]),
 (194,[.nilFunc]),
 (196,[.nilFunc]),
 (197,[.nilFunc]),
 (198,[.nilFunc]),
 (199,[.nilFunc]),
 (200,[.nilFunc]),
 (201,[.nilFunc]),
 (202,[.nilFunc]),
 (203,[.nilFunc]),
 (204,[.nilFunc]),
 (205,[.nilFunc]),
 (206,[.nilFunc]),
 (207,[.int .i64 0,.slice none 0 0,.int .i64 0,.string ⟨#[]⟩]),
 (208,[.nilFunc]),
 (209,[.nilFunc]),
 (210,[.nilFunc]),
 (211,[.nilFunc]),
 (212,[.nilFunc]),
 (213,[.nilFunc]),
 (214,[.int .u64 0]),
 (215,[.nilFunc]),
 (217,[.nilFunc]),
 (218,[.nilFunc]),
 (219,[.nilFunc]),
 (220,[.nilFunc]),
 (221,[.nilFunc]),
 (222,[.int .u8 0,.string ⟨#[]⟩,.int .i64 0]),
 (223,[.int .u8 0,.string ⟨#[]⟩,.int .i64 0]),
 (224,[.nilFunc]),
 (225,[.nilFunc]),
 (226,[.nilFunc]),
 (228,[.nilFunc]),
 (229,[.nilFunc]),
 (230,[.string ⟨#[]⟩,.int .i64 0]),
 (231,[.string ⟨#[]⟩,.int .i64 0]),
 (232,[.nilFunc]),
 (233,[.nilFunc]),
 (234,[.nilFunc]),
 (235,[.nilFunc]),
 (236,[.nilFunc]),
 (237,[.nilFunc]),
 (238,[.nilFunc]),
 (239,[.int .u8 0,.int .u8 0,.int .u8 0,.int .u8 0,.int .u8 0,.int .u8 0,.int .u8 0,.int .u8 0,.int .u8 0,.int .u8 0,.int .u8 0,.int .u8 0,.int .u8 0,.int .u8 0,.int .u8 0,.int .u8 0,.int .u8 0,.int .u8 0,.int .u8 0,.int .u8 0,.int .u8 0,.int .u8 0,.int .u8 0,.int .u8 0]),
 (240,[.int .u64 0]),
 (241,[.nilFunc]),
 (242,[.nilFunc]),
 (244,[.nilFunc]),
 (245,[.nilFunc]),
 (246,[.int .u32 0]),
 (248,[.nilFunc]),
 (249,[.nilFunc]),
 (250,[.nilFunc]),
 (251,[.nilFunc]),
 (252,[.string ⟨#[]⟩,.string ⟨#[]⟩,.string ⟨#[]⟩,.string ⟨#[]⟩,.string ⟨#[]⟩,.string ⟨#[]⟩,.string ⟨#[]⟩,.string ⟨#[]⟩,.string ⟨#[]⟩,.string ⟨#[]⟩,.string ⟨#[]⟩,.string ⟨#[]⟩,.string ⟨#[]⟩,.string ⟨#[]⟩,.string ⟨#[]⟩,.string ⟨#[]⟩,.string ⟨#[]⟩,.string ⟨#[]⟩,.string ⟨#[]⟩,.string ⟨#[]⟩,.string ⟨#[]⟩,.string ⟨#[]⟩,.string ⟨#[]⟩,.string ⟨#[]⟩,.string ⟨#[]⟩,.string ⟨#[]⟩,.string ⟨#[]⟩,.string ⟨#[]⟩,.string ⟨#[]⟩,.string ⟨#[]⟩,.string ⟨#[]⟩,.string ⟨#[]⟩,.string ⟨#[]⟩,.string ⟨#[]⟩,.string ⟨#[]⟩,.string ⟨#[]⟩,.string ⟨#[]⟩,.string ⟨#[]⟩,.string ⟨#[]⟩,.string ⟨#[]⟩,.string ⟨#[]⟩,.string ⟨#[]⟩,.string ⟨#[]⟩]),
 (253,[.nilFunc]),
 (254,[.nilFunc]),
 (255,[.nilFunc]),
 (256,[.nilFunc]),
 (257,[.nilFunc]),
 (258,[.nilFunc]),
 (259,[.nilFunc]),
 (260,[.nilFunc]),
 (261,[.int .u64 0,.int .u64 0,.int .u64 0,.int .u64 0,.int .u64 0,.int .u64 0,.int .u64 0,.int .u64 0,.int .u64 0,.int .u64 0,.int .u64 0,.int .u64 0,.int .u64 0,.int .u64 0,.int .u64 0,.int .u64 0,.int .u64 0,.int .u64 0,.int .u64 0,.int .u64 0]),
 (263,[.nilFunc]),
 (264,[.nilFunc]),
 (265,[.nilFunc]),
 (267,[.nilFunc]),
 (268,[.int .i64 0]),
 (270,[.nilFunc]),
 (271,[.pointer none]),
 (272,[.nilFunc]),
 (273,[.nilFunc]),
 (274,[.slice none 0 0]),
 (275,[.int .u8 0,.int .i64 0,.string ⟨#[]⟩,.slice none 0 0,.int .i64 0,.bool false]),
 (276,[.int .u8 0,.int .i64 0,.string ⟨#[]⟩,.slice none 0 0,.int .i64 0,.bool false]),
 (277,[.nilFunc]),
 (278,[.nilFunc]),
 (280,[.nilFunc]),
 (281,[.nilFunc]),
 (282,[.string ⟨#[]⟩,.string ⟨#[]⟩,.nilIface]),
 (283,[.string ⟨#[]⟩,.string ⟨#[]⟩,.nilIface]),
 (284,[.nilFunc]),
 (285,[.nilFunc]),
 (286,[.nilFunc]),
 (287,[.nilFunc]),
 (288,[.nilFunc]),
 (289,[.slice none 0 0]),
 (290,[.nilFunc]),
 (291,[.nilFunc]),
 (292,[.nilFunc]),
 (293,[.nilFunc]),
 (294,[.int .u8 0,.int .u8 0,.int .u8 0,.int .u8 0,.int .u8 0,.int .u8 0,.int .u8 0,.int .u8 0,.int .u8 0,.int .u8 0,.int .u8 0,.int .u8 0,.int .u8 0,.int .u8 0,.int .u8 0,.int .u8 0,.int .u8 0,.int .u8 0,.int .u8 0,.int .u8 0,.int .u8 0,.int .u8 0,.int .u8 0,.int .u8 0,.int .u8 0,.int .u8 0,.int .u8 0,.int .u8 0,.int .u8 0,.int .u8 0,.int .u8 0,.int .u8 0]),
 (295,[.int .u8 0,.int .u8 0,.int .u8 0,.int .u8 0,.int .u8 0,.int .u8 0,.int .u8 0,.int .u8 0,.int .u8 0,.int .u8 0,.int .u8 0,.int .u8 0,.int .u8 0,.int .u8 0,.int .u8 0,.int .u8 0,.int .u8 0,.int .u8 0,.int .u8 0,.int .u8 0,.int .u8 0,.int .u8 0,.int .u8 0,.int .u8 0,.int .u8 0,.int .u8 0,.int .u8 0,.int .u8 0,.int .u8 0,.int .u8 0,.int .u8 0,.int .u8 0,.int .u8 0,.int .u8 0,.int .u8 0,.int .u8 0,.int .u8 0,.int .u8 0,.int .u8 0,.int .u8 0,.int .u8 0,.int .u8 0,.int .u8 0,.int .u8 0,.int .u8 0,.int .u8 0,.int .u8 0,.int .u8 0,.int .u8 0,.int .u8 0,.int .u8 0,.int .u8 0,.int .u8 0,.int .u8 0,.int .u8 0,.int .u8 0,.int .u8 0,.int .u8 0,.int .u8 0,.int .u8 0,.int .u8 0,.int .u8 0,.int .u8 0,.int .u8 0]),
 (297,[.int .u8 0,.int .u8 0]),
 (298,[.int .u8 0,.int .u8 0]),
 (299,[.int .u8 0,.int .u8 0,.int .u8 0,.int .u8 0,.int .u8 0,.int .u8 0,.int .u8 0,.int .u8 0,.int .u8 0,.int .u8 0,.int .u8 0,.int .u8 0,.int .u8 0,.int .u8 0,.int .u8 0,.int .u8 0,.int .u8 0,.int .u8 0,.int .u8 0,.int .u8 0,.int .u8 0,.int .u8 0,.int .u8 0,.int .u8 0,.int .u8 0,.int .u8 0,.int .u8 0,.int .u8 0,.int .u8 0,.int .u8 0,.int .u8 0,.int .u8 0]),
 (300,[.pointer none]),
 (301,[.string ⟨#[]⟩]),
 (302,[.string ⟨#[]⟩]),
 (303,[.nilFunc]),
 (304,[.nilFunc]),
 (306,[.pointer none,.pointer none,.pointer none,.string ⟨#[]⟩]),
 (307,[.pointer none,.pointer none,.pointer none,.string ⟨#[]⟩]),
 (308,[]),
 (311,[.int .u8 0]),
 (312,[.int .u8 0]),
 (313,[.nilFunc]),
 (314,[.int .i32 0]),
 (315,[.int .i32 0]),
 (316,[.int .u64 0,.int .u64 0,.int .u32 0,.int .u8 0,.int .u8 0,.int .u8 0,.int .u8 0,.nilFunc,.pointer none,.int .i32 0,.int .i32 0]),
 (317,[.int .u64 0,.int .u64 0,.int .u32 0,.int .u8 0,.int .u8 0,.int .u8 0,.int .u8 0,.nilFunc,.pointer none,.int .i32 0,.int .i32 0])]
def Ac:TabOk prog tab:=TabOk.of_check (by kernel_rfl)
def CM:Cy prog zt:=⟨by kernel_rfl,by kernel_rfl,by kernel_rfl,by kernel_rfl,by kernel_rfl,by kernel_rfl,by kernel_rfl,by kernel_rfl,by kernel_rfl,by kernel_rfl,by kernel_rfl,by kernel_rfl,by kernel_rfl,by kernel_rfl,by kernel_rfl,by kernel_rfl,by kernel_rfl,by kernel_rfl,by kernel_rfl,by kernel_rfl,by kernel_rfl,by kernel_rfl,by kernel_rfl,by kernel_rfl,by kernel_rfl,by kernel_rfl,by kernel_rfl,by kernel_rfl,by kernel_rfl,by kernel_rfl,by kernel_rfl,by kernel_rfl,by kernel_rfl,by kernel_rfl,by kernel_rfl,by kernel_rfl,by kernel_rfl,by kernel_rfl,by kernel_rfl,by kernel_rfl,by kernel_rfl,by kernel_rfl,by kernel_rfl,by kernel_rfl,by kernel_rfl,by kernel_rfl,by kernel_rfl,by kernel_rfl,by kernel_rfl,by kernel_rfl,by kernel_rfl,by kernel_rfl,by kernel_rfl,by kernel_rfl,by kernel_rfl,by kernel_rfl,by kernel_rfl,by kernel_rfl,by kernel_rfl,by kernel_rfl,by kernel_rfl,by kernel_rfl,by kernel_rfl,by kernel_rfl,by kernel_rfl,by kernel_rfl,by kernel_rfl,by kernel_rfl,by kernel_rfl,by kernel_rfl,by kernel_rfl,by kernel_rfl,by kernel_rfl,by kernel_rfl,by kernel_rfl,by kernel_rfl,by kernel_rfl,by kernel_rfl,by kernel_rfl,by kernel_rfl,by kernel_rfl,by kernel_rfl,by kernel_rfl,by kernel_rfl,by kernel_rfl,by kernel_rfl,by kernel_rfl,by kernel_rfl,by kernel_rfl,by kernel_rfl,by kernel_rfl,by kernel_rfl,by kernel_rfl,by kernel_rfl,by kernel_rfl,by kernel_rfl,by kernel_rfl,by kernel_rfl,by kernel_rfl,by kernel_rfl,by kernel_rfl,by kernel_rfl,by kernel_rfl,by kernel_rfl,by kernel_rfl,by kernel_rfl,by kernel_rfl,by kernel_rfl,by kernel_rfl,by kernel_rfl,by kernel_rfl,by kernel_rfl,by kernel_rfl,by kernel_rfl,by kernel_rfl,by kernel_rfl,by kernel_rfl,by kernel_rfl,by kernel_rfl,by kernel_rfl,by kernel_rfl,by kernel_rfl,by kernel_rfl,by kernel_rfl,by kernel_rfl,by kernel_rfl,by kernel_rfl,by kernel_rfl,by kernel_rfl,by kernel_rfl,by kernel_rfl,by kernel_rfl,by kernel_rfl,by kernel_rfl,by kernel_rfl,by kernel_rfl,by kernel_rfl,by kernel_rfl,by kernel_rfl,by kernel_rfl,by kernel_rfl,by kernel_rfl,by kernel_rfl,by kernel_rfl,by kernel_rfl,by kernel_rfl,by kernel_rfl,by kernel_rfl,by kernel_rfl,by kernel_rfl,by kernel_rfl,by kernel_rfl,by kernel_rfl,by kernel_rfl,by kernel_rfl,by kernel_rfl,by kernel_rfl,by kernel_rfl,by kernel_rfl,by kernel_rfl,by kernel_rfl,by kernel_rfl,by kernel_rfl,by kernel_rfl,by kernel_rfl,by kernel_rfl,by kernel_rfl,by kernel_rfl,by kernel_rfl,by kernel_rfl,by kernel_rfl,by kernel_rfl,by kernel_rfl,by kernel_rfl,by kernel_rfl,by kernel_rfl,by kernel_rfl,by kernel_rfl,by kernel_rfl,by kernel_rfl,by kernel_rfl,by kernel_rfl,by kernel_rfl,by kernel_rfl,by kernel_rfl,by kernel_rfl,by kernel_rfl,by kernel_rfl,by kernel_rfl,by kernel_rfl,by kernel_rfl,by kernel_rfl,by kernel_rfl,by kernel_rfl,by kernel_rfl,by kernel_rfl,by kernel_rfl,by kernel_rfl,by kernel_rfl,by kernel_rfl,by kernel_rfl,by kernel_rfl,by kernel_rfl,by kernel_rfl,by kernel_rfl,by kernel_rfl,by kernel_rfl,by kernel_rfl,by kernel_rfl,by kernel_rfl,by kernel_rfl,by kernel_rfl,by kernel_rfl,by kernel_rfl,by kernel_rfl,by kernel_rfl,by kernel_rfl,by kernel_rfl,by kernel_rfl,by kernel_rfl,by kernel_rfl,by kernel_rfl,by kernel_rfl,by kernel_rfl,by kernel_rfl,by kernel_rfl,by kernel_rfl,by kernel_rfl,by kernel_rfl,by kernel_rfl,by kernel_rfl,by kernel_rfl,by kernel_rfl,by kernel_rfl,by kernel_rfl,by kernel_rfl,by kernel_rfl,by kernel_rfl,by kernel_rfl,by kernel_rfl,by kernel_rfl,by kernel_rfl,by kernel_rfl,by kernel_rfl,by kernel_rfl,by kernel_rfl,by kernel_rfl,by kernel_rfl,by kernel_rfl,by kernel_rfl,by kernel_rfl,by kernel_rfl,by kernel_rfl,by kernel_rfl,by kernel_rfl,by kernel_rfl,by kernel_rfl,by kernel_rfl,by kernel_rfl,by kernel_rfl,by kernel_rfl,by kernel_rfl,by kernel_rfl,by kernel_rfl,by kernel_rfl,by kernel_rfl,by kernel_rfl,by kernel_rfl,by kernel_rfl,by kernel_rfl,by kernel_rfl,by kernel_rfl,by kernel_rfl,by kernel_rfl,by kernel_rfl,by kernel_rfl,by kernel_rfl,by kernel_rfl,by kernel_rfl,by kernel_rfl,by kernel_rfl,by kernel_rfl,by kernel_rfl,by kernel_rfl,by kernel_rfl,trivial⟩
def mixed:prog.follows .mixedOrders=true:=by kernel_rfl
def New.put {w f E:wD} {b:Nat} {vs us:lV} (h:New w f b vs) (p:Put f E b us):New w E b us:=
 ⟨h.pos,p.blk,⟨p.fr.os.trans (Below.os h.ext),p.fr.tape.trans (Below.tape h.ext),p.fr.output.trans (Below.output h.ext),cD h.ext.size p.fr.size,
  fun k F=>(p.fr.block k (Nat.lt_of_lt_of_le F h.ext.size) (by have:=h.pos;omega)).trans (h.ext.block F)⟩,by rw [p.size,h.size]⟩
def Blk.put {w f:wD} {b c:Nat} {vs us:lV} (h:Blk w c us) (p:Put w f b vs) (E:c≠b):Blk f c us:=h.fr p.fr E
section seqs
variable {P:Program} {n:Nat} {ops:Array Oper} {Q:Exit->Act->wD->Prop} {rest:List Oper} {l:Sl} {w:wD} {tab:Tab}
 {d:Nat} {ty:TypeId} {pos:String} {after:Array Edge}
def IV {x:Operand} {t:Nat} {v:Value} {vs:lV} (E:ev l x=some v) (F:v.cells=vs.toArray) (L:bM d n=true)
 (k : ∀b f,New w f b vs->LW P n ops Q rest ((d,.pointer (some ⟨b,0,none⟩))::l) f):LW P n ops Q (⟨some d,.box t x,ty,pos,after,none⟩::rest) l w:=
 Au (Uu E F) L (fun _ f ⟨b,h,hn⟩=>h▸k b f hn) (fun _ h=>h)
def Gj {zt:Ey} {t:Nat} {vs:lV} (Z:Cy P zt) (E:CT zt t=some vs) (F:bM d n=true)
 (k : ∀b f,New w f b vs->LW P n ops Q rest ((d,.pointer (some ⟨b,0,none⟩))::l) f):LW P n ops Q (⟨some d,.alloc t,ty,pos,after,none⟩::rest) l w:=
 Au (C4 Z E) F (fun _ f ⟨b,h,hn⟩=>h▸k b f hn) (fun _ h=>h)
def I9 {x y:Operand} {t sz b o:Nat} {s:Sk} {v:Value} {vs us:lV} (T:TabOk P tab) (E:AD tab t=some (s,sz)) (F:ev l x=some (.pointer (some ⟨b,o,none⟩))) (L:ev l y=some v)
 (M:v.cells=us.toArray) (N:us.length=sz) (h1:us.all Value.one=true) (O:Blk w b vs) (U:cY (o+us.length) vs.length=true)
 (k : ∀f,Put w f b (Bi vs o us)->LW P n ops Q rest l f):LW P n ops Q (⟨none,.store t x y,ty,pos,after,none⟩::rest) l w:=
 DA (GO T E F L M N h1 O U) (fun v f h=>by cases v with|none=>exact k f h|some _=>exact h.elim)
def It {w0:wD} {x y:Operand} {t sz b:Nat} {s:Sk} {v:Value} {vs us:lV} (T:TabOk P tab) (L:AD tab t=some (s,sz)) (M:ev l x=some (.pointer (some ⟨b,0,none⟩))) (N:ev l y=some v)
 (O:v.cells=us.toArray) (U:us.length=sz) (h1:us.all Value.one=true) (E:New w0 w b vs) (F:us.length=vs.length)
 (k : ∀f,New w0 f b us->LW P n ops Q rest l f):LW P n ops Q (⟨none,.store t x y,ty,pos,after,none⟩::rest) l w:=
 I9 T L M N O U h1 E.blk (by simp [F]) (fun f p=>k f (E.put (by
  have e:Bi vs 0 us=us:=by
   have key : ∀(us vs pre:lV),us.length=vs.length->Bi (pre++vs) pre.length us=pre++us:=by
    intro us
    induction us with
    | nil=>intro vs pre h;cases vs with|nil=>simp [Bi]|cons _ _=>simp at h
    | cons u r V=>
     intro vs pre h;cases vs with
     | nil=>simp at h
     | cons x vs=>
      simp only [Bi];have:(pre++x::vs).set pre.length u=(pre++[u])++vs:=by simp
      rw [this];have:=V vs (pre++[u]) (by simpa using h);simp only [aU,aV,aX] at this;rw [this];simp
   simpa using key us vs [] F
  rw [e] at p;exact p)))
end seqs
def Uv (v:lV) : ∀(cells:Array Value) (off j:Nat),((v.zipIdx j).foldl (fun cs (c:Value×Nat)=>cs.setIfInBounds (off+c.2) c.1) cells).toList=Bi cells.toList (off+j) v:=by
 induction v with
 | nil=>intro cells off j;simp [Bi]
 | cons x r f=>
  intro cells off j;simp only [List.zipIdx_cons,List.foldl_cons,Bi];rw [f];simp only [Array.toList_setIfInBounds];rw [show off+(j+1)=off+j+1 from by omega]
def IK:List (Nat×Nat×lV)->lV->Option lV
 | [],cells=>some cells
 | (off,size,v)::r,cells=>match cZ v.length size with
  | true=>match cY (off+size) cells.length with
   | true=>IK r (Bi cells off v)
   | false=>none
  | false=>none
def NU {place:Nat->Option (Nat×Nat)} : ∀(E:List (Nat×Value)) (F:List (Nat×Nat×lV)) (cells:Array Value) (f:lV),
 E.length=F.length->(∀(i:Nat) (p:Nat×Value) (q:Nat×Nat×lV),E[i]? = some p->F[i]? = some q->place p.1=some (q.1,q.2.1)/\p.2.cells=q.2.2.toArray)->IK F cells.toList=some f->Instr.fill place cells E=some f.toArray
 | [],[],cells,f,_,_,h=>by simp only [IK,bK] at h;subst h;simp [Instr.fill]
 | [],_::_,_,_,L,_,_=>by simp at L
 | _::_,[],_,_,L,_,_=>by simp at L
 | (i,v)::E,(off,size,us)::F,cells,f,L,V,h=>by
  obtain ⟨h1,M⟩:=V 0 _ _ rfl rfl;simp only at h1 M;simp only [IK] at h;split at h
  . rename_i X;split at h
    . rename_i Y;have N:=cQ X;have O:=cE Y;simp only [Array.length_toList] at O;have U:v.cells.size=us.length:=by rw [M];simp
      simp only [Instr.fill,h1];have Z : ¬(decide (v.cells.size≠size)||decide (off+v.cells.size>cells.size))=true:=by simp [U,N];omega
      rw [AE (by simpa using Z)];refine NU E F _ f (by simpa using L) (fun j p q hj hq=>V (j+1) p q hj hq) ?_;have hz:v.cells.zipIdx.foldl (fun cs (c:Value×Nat)=>cs.setIfInBounds (off+c.2) c.1) cells=(Bi cells.toList off us).toArray:=by
       apply Array.ext';rw [<-Array.foldl_toList];have:=Uv us cells off 0;simpa [M,Array.toList_zipIdx] using this
      rw [show (v.cells.zipIdx.foldl (fun cs x=>match x with|(c,j)=>cs.setIfInBounds (off+j) c) cells)=(Bi cells.toList off us).toArray from hz];simpa using h
    . cases h
  . cases h
def Ku : ∀(us vs pre f:lV),us.length=vs.length->Bi (pre++vs++f) pre.length us=pre++us++f:=by
 intro us
 induction us with
 | nil=>intro vs pre f h;cases vs with|nil=>simp [Bi]|cons _ _=>simp at h
 | cons u r E=>
  intro vs pre f h;cases vs with
  | nil=>simp at h
  | cons x vs=>
   simp only [Bi];have e:(pre++x::vs++f).set pre.length u=(pre++[u])++vs++f:=by simp
   rw [e];have:=E vs (pre++[u]) f (by simpa using h);simp only [aU,aV,aX] at this;rw [this];simp
def Ho (size:Nat):Nat->List lV->List (Nat×Nat×lV)
 | _,[]=>[]
 | k,v::r=>(k*size,size,v)::Ho size (k+1) r
def M1 (size:Nat) : ∀(f:List lV) (k:Nat) (pre rest:lV),pre.length=k*size->(∀v∈f,v.length=size)->rest.length=f.length*size ->
 IK (Ho size k f) (pre++rest)=some (pre++f.flatten)
 | [],k,pre,rest,_,_,h=>by
  have:rest=[]:=by simpa using h
  subst this;simp [Ho,IK]
 | v::r,k,pre,rest,M,N,O=>by
  have E:=N v List.mem_cons_self;simp only [aV,Nat.add_mul,Nat.one_mul] at O;have F:rest=rest.take size++rest.drop size:=(cL _ _).symm;have L:(rest.take size).length=v.length:=by rw [cH,E];omega
  simp only [Ho,IK];have U:cZ v.length size=true:=by rw [E];exact Nat.beq_refl size
  have V:cY (k*size+size) (pre++rest).length=true:=Nat.ble_eq_true_of_le (by rw [aU];omega);rw [U];simp only;rw [V];simp only;have e:Bi (pre++rest) (k*size) v=pre++v++rest.drop size:=by
   have:=Ku v (rest.take size) pre (rest.drop size) L.symm;rw [cF,<-F,M] at this;exact this
  rw [e];have:=M1 size r (k+1) (pre++v) (rest.drop size) (by rw [aU,M,E,Nat.add_mul,Nat.one_mul]) (fun u X=>N u (List.mem_cons_of_mem _ X)) (by rw [List.length_drop];omega);rw [this];simp
def GQ (l:Sl):Nat->List (Nat×Operand)->Option lV
 | _,[]=>some []
 | k,(i,x)::r=>match cZ i k with
  | true=>match ev l x with
   | some v=>match GQ l (k+1) r with
    | some vs=>some (v::vs)
    | none=>none
   | none=>none
  | false=>none
def Ja {n:Nat} {l:Sl} {a:Act} (E:Env n l a) : ∀(F:List (Nat×Operand)) (k:Nat) (vs:lV),GQ l k F=some vs->F.map (fun p=>(p.1,a.eval p.2))=(vs.zipIdx k).map (fun v=>(v.2,v.1))
 | [],k,vs,h=>by simp only [GQ,bK] at h;subst h;rfl
 | (i,x)::r,k,vs,h=>by
  simp only [GQ] at h;split at h
  . rename_i L;have f:=cQ L;split at h
    . rename_i v M;split at h
      . rename_i us N;simp only [bK] at h;subst h f;simp [E.ev M,Ja E r _ _ N]
      . cases h
    . cases h
  . cases h
def NV (w:wD) (len:Nat) (vs:lV) (T:TypeId):Option Value->wD->Prop
 | some v,w1=> ∃b,v = .slice (some ⟨b,0,none⟩) len len/\New w w1 b vs/\w1.heap[b]? = some (.cells vs.toArray T (0,0))
 | none,_=>False
def M2 (size:Nat) : ∀(f:List lV) (k i:Nat) (q:Nat×Nat×lV),(Ho size k f)[i]? = some q -> ∃v,f[i]? = some v/\q=((k+i)*size,size,v)
 | [],_,_,_,h=>by simp [Ho] at h
 | v::r,k,0,q,h=>by simp [Ho] at h;exact ⟨v,rfl,by simp [h]⟩
 | v::r,k,i+1,q,h=>by
  simp only [Ho,List.getElem?_cons_succ] at h;obtain ⟨u,h1,E⟩:=M2 size r (k+1) i q h;exact ⟨u,by simpa using h1,by rw [E];congr 2;omega⟩
def Jb (size:Nat) : ∀(f:List lV) (k:Nat),(Ho size k f).length=f.length
 | [],_=>rfl
 | _::r,k=>by simp [Ho,Jb size r]
section does
variable {P:Program} {n:Nat} {l:Sl} {w:wD} {tab:Tab} {zt:Ey} {ty:TypeId}
def CN {t e sz szE len:Nat} {sE:Sk} {zs:lV} {ps:List (Nat×Operand)} {vs:lV} (T:TabOk P tab) (Z:Cy P zt) (ht:AD tab t=some (.slice e,sz)) (hE:AD tab e=some (sE,szE))
 (hz:CT zt e=some zs) (hp:GQ l 0 ps=some vs) (hl:vs.length=len) (hc:vs.all (fun v=>cZ v.cells.size szE)=true) (hm:cY (len*szE) 10000=true) (hn0:bM 0 (len*szE)=true) :
 Cr P n l (.buildSlice t len ps.toArray) ty w (NV w len (vs.map (·.cells.toList)).flatten e):=by
 unfold Cr;intro a dst pos after g next Q ha hn _;have hu:P.underlying t=some (.slice e):=(T _ _ _ ht).under;have hm':=cE hm;have hn0':0<len*szE:=cE hn0;obtain ⟨i0,v0,z1,z2,z3⟩:=Fd Z hz;have hps:=Ja ha ps 0 vs hp;have hlen : ∀v∈vs,v.cells.size=szE:=fun v hv=>cQ (cX.1 hc v hv)
 have hfill : ∀cells:Array Value,cells.size=len*szE->Instr.fill (fun i=>some (i*szE,szE)) cells ((vs.zipIdx 0).map (fun v=>(v.2,v.1)))=some (vs.map (·.cells.toList)).flatten.toArray:=fun cells hcs=>by
  refine NU _ (Ho szE 0 (vs.map (·.cells.toList))) cells _ (by simp [Jb]) ?_ ?_
  . intro i p q hi hq;obtain ⟨v,hv,rfl⟩:=M2 szE _ 0 i q hq;simp only [List.getElem?_map,Option.map_eq_some_iff] at hv hi;obtain ⟨x,hx,rfl⟩:=hv;obtain ⟨y,hy,rfl⟩:=hi;rw [List.getElem?_zipIdx] at hy;rw [hx] at hy;simp only [Option.map_some,bK] at hy;subst hy;simp
  . have:=M1 szE (vs.map (·.cells.toList)) 0 [] cells.toList (by simp) (by simpa using hlen) (by simp [hcs,hl]);simpa using this
 have e1:(execOp a.eval ⟨dst,.buildSlice t len ps.toArray,ty,pos,after,g⟩).run P w = .ok (.value (.slice (some ⟨w.heap.size,0,none⟩) len len)) (w.alloc (.cells (vs.map (·.cells.toList)).flatten.toArray e (0,0))):=by
  have hpa:(ps.toArray.map fun (p:Nat×Operand)=>(p.1,a.eval p.2)).toList=(vs.zipIdx 0).map (fun v=>(v.2,v.1)):=by simpa using hps
  have hb:(Instr.buildSlice t len (ps.toArray.map fun (p:Nat×Operand)=>(p.1,a.eval p.2))).run P w = .ok (.slice (some ⟨w.heap.size,0,none⟩) len len) (w.alloc (.cells (vs.map (·.cells.toList)).flatten.toArray e (0,0))):=by
   simp only [Instr.buildSlice,bL,AK hu,bG,C2 (T _ _ _ hE),hpa];rw [AE (by omega)];simp only [AE (show ¬len*szE=0 by omega),zeroValue,typeInfo,program,Sem.run,z1,z2,bind,Sem.bind,pure];rw [hfill _ (by simp)];simp only [newRow,newObj,bind,Sem.bind,Sem.run,pure];rfl
  simp only [execOp,bL];rw [show (ps.toArray.map fun x=>match x with|(i,x)=>(i,a.eval x))=ps.toArray.map fun (p:Nat×Operand)=>(p.1,a.eval p.2) from rfl,hb];rfl
 unfold Oper.wp;rw [e1];exact hn _ _ ⟨_,rfl,ET _ _ _,by show (w.heap.push _)[w.heap.size]? = _;simp⟩
def Ez {S:wD->Prop} {x:Operand} {a:Addr} (f:ev l x=some (.pointer (some a))):BA P n l S (.nilCheck x) ty (.pointer (some a)):=by
 unfold BA;intro a w h pos after g E _;simp [execOp,E.ev f]
def IW (tab:Tab) (fs:List (Nat×Nat)) (l:Sl):List (Nat×Operand)->Option (List (Nat×Value)×List (Nat×Nat×lV))
 | []=>some ([],[])
 | (i,x)::r=>match fs[i]? with
  | some (off,ft)=>match AD tab ft with
   | some (_,sz)=>match ev l x with
    | some v=>match IW tab fs l r with
     | some (ps,qs)=>some ((i,v)::ps,(off,sz,v.cells.toList)::qs)
     | none=>none
    | none=>none
   | none=>none
  | none=>none
def Kv {a:Act} {V:List (Nat×Nat)} {X:Array Field} (T:TabOk P tab) (Y:Env n l a) (Z : ∀(i o E:Nat),V[i]? = some (o,E) -> ∃g:Field,X[i]? = some g/\g.offset=o/\g.type=E /\ ∃j:TypeInfo,P.info? E=some j/\j.size≠0)
 {pl:Array (Nat×Nat)} (F : ∀(i:Nat) (g:Field) (s:Sk) (sz:Nat),X[i]? = some g->TyOk P g.type s sz->pl[i]? = some (g.offset,sz)) : ∀(xs:List (Nat×Operand)) (f:List (Nat×Value)) (L:List (Nat×Nat×lV)),IW tab V l xs=some (f,L) ->
  xs.map (fun p=>(p.1,a.eval p.2))=f/\f.length=L.length /\ ∀(i:Nat) (p:Nat×Value) (q:Nat×Nat×lV),f[i]? = some p->L[i]? = some q->pl[p.1]? = some (q.1,q.2.1)/\p.2.cells=q.2.2.toArray
 | [],f,L,h=>by simp only [IW,bK,cO] at h;obtain ⟨rfl,rfl⟩:=h;simp
 | (i,x)::r,f,L,h=>by
  simp only [IW] at h;split at h
  . rename_i off E hf;split at h
    . rename_i s sz ht;split at h
      . rename_i v hv;split at h
        . rename_i M N hr;simp only [bK,cO] at h;obtain ⟨rfl,rfl⟩:=h;obtain ⟨h1,h2,h3⟩:=Kv T Y Z F r M N hr;refine ⟨by simp [Y.ev hv,h1],by simp [h2],?_⟩;rintro (_|j) p q O U
          . simp only [List.getElem?_cons_zero,bK] at O U;subst O U;obtain ⟨g,g1,g2,g3,-⟩:=Z i off E hf;refine ⟨?_,by simp⟩;have:=F i g s sz g1 (by rw [g3];exact T _ _ _ ht);rw [g2] at this;exact this
          . exact h3 j p q (by simpa using O) (by simpa using U)
        . cases h
      . cases h
    . cases h
  . cases h
def M3 : ∀(L:List Field),(∀f∈L,∃i,P.info? f.type=some i) -> ∃pl:List (Nat×Nat),L.mapM (fun f=>(P.info? f.type).map fun i=>(f.offset,i.size))=some pl /\ ∀(i:Nat) (g:Field) (s:Sk) (sz:Nat),L[i]? = some g->TyOk P g.type s sz->pl[i]? = some (g.offset,sz)
 | [],_=>⟨[],by simp,by simp⟩
 | f::r,h=>by
  obtain ⟨i,M⟩:=h f List.mem_cons_self;obtain ⟨pl,h1,O⟩:=M3 r (fun g E=>h g (List.mem_cons_of_mem _ E));refine ⟨(f.offset,i.size)::pl,by simp [M,h1],?_⟩;rintro (_|j) g s sz E N
  . simp only [List.getElem?_cons_zero,bK] at E;subst E;obtain ⟨V,F,U⟩:=N.info;rw [M] at F;injection F with F
    subst F;simp [U]
  . exact O j g s sz (by simpa using E) N
def SS {S:wD->Prop} {t sz:Nat} {E:List (Nat×Nat)} {xs:List (Nat×Operand)} {F:List (Nat×Value)} {L:List (Nat×Nat×lV)} {N h:lV} (T:TabOk P tab) (Z:Cy P zt)
 (V:AD tab t=some (.struct E,sz)) (X:CT zt t=some N) (Y:IW tab E l xs=some (F,L)) (ho:IK L N=some h):BA P n l S (.build t xs.toArray) ty (.agg h.toArray):=by
 unfold BA;intro a w aa pos after g ha _;obtain ⟨O,h1,h2,U⟩:=(T _ _ _ V).under;obtain ⟨i0,v0,z1,z2,z3⟩:=Fd Z X;obtain ⟨pl,p1,p2⟩:=M3 (P:=P) O.toList (fun f hf=>by
  obtain ⟨i,hi,rfl⟩:=List.mem_iff_getElem.1 hf;have M:i<E.length:=by simpa [h2] using hi
  obtain ⟨g,g1,g2,g3,j,g4,-⟩:=U i E[i].1 E[i].2 (aY M);have:O.toList[i]=g:=by
   have:=Array.getElem?_eq_some_iff.1 g1;simpa using this.2
  rw [this,g3];exact ⟨j,g4⟩)
 obtain ⟨q1,q2,q3⟩:=Kv T ha U (pl:=pl.toArray) (fun i g s sz hg hk=>by simpa using p2 i g s sz (by simpa using hg) hk) xs F L Y;have hb:P.built t (xs.toArray.map fun (p:Nat×Operand)=>(p.1,a.eval p.2)).toList=some h.toArray:=by
  unfold Program.built;simp only [z1,h1,z2,p1];rw [show (xs.toArray.map fun (p:Nat×Operand)=>(p.1,a.eval p.2)).toList=F from by simpa using q1];exact NU F L v0.cells h q2 q3 (by rw [z3];simpa using ho)
 have:=run_build w t _ _ hb;simp only [execOp,bL];rw [show (xs.toArray.map fun x=>match x with|(i,x)=>(i,a.eval x))=xs.toArray.map fun (p:Nat×Operand)=>(p.1,a.eval p.2) from rfl,this];rfl
end does
def Row.sub {w:wD} {b o:Nat} {vs:lV} (h:Row w ⟨b,o,none⟩ vs) (i k:Nat):Row w ⟨b,o+i,none⟩ ((vs.drop i).take k):=fun j v f=>by
 have E:vs[i+j]? = some v:=by
  rw [List.getElem?_take] at f;split at f
  . rwa [List.getElem?_drop] at f
  . cases f
 have:=h.at E;have e:(⟨b,o+i,none⟩:Addr).add j=⟨b,o+(i+j),none⟩:=by unfold cU;by_cases F:j=0<;>simp [F,Nat.add_assoc]
 rw [e];exact this
section parts
variable {P:Program} {n:Nat} {l:Sl} {S:wD->Prop} {ty:TypeId} {tab:Tab}
def C5 {x:Operand} {t sz b o:Nat} {s:Sk} {vs:lV} (T:TabOk P tab) (f:AD tab t=some (s,sz)) (h:s.agg=true) (E:ev l x=some (.pointer (some ⟨b,o,none⟩)))
 (F : ∀w,S w->Blk w b vs) (L:cY (o+sz) vs.length=true):BA P n l S (.load t x) ty (.agg ((vs.drop o).take sz).toArray):=
 Ir T f h E (by have:=cE L;simp;omega) (fun w M=>by have:=(F w M).row.sub o sz;simpa using this)
def Ga {x:Operand} {t sz b o i:Nat} {s:Sk} {vs:lV} (T:TabOk P tab) (f:AD tab t=some (s,sz)) (h:s.agg=true) (E:ev l x=some (.pointer (some ⟨b,o+i,none⟩)))
 (F : ∀w,S w->Row w ⟨b,o,none⟩ vs) (L:cY (i+sz) vs.length=true):BA P n l S (.load t x) ty (.agg ((vs.drop i).take sz).toArray):=
 Ir T f h E (by have:=cE L;simp;omega) (fun w M=>(F w M).sub i sz)
end parts
def ST {P:Program} {n:Nat} {l:Sl} {S:wD->Prop} {ty:TypeId} {tab:Tab} {x:Operand} {t sz:Nat} {a:lB} (T:TabOk P tab) (f:AD tab t=some (.str,sz)) (h:ev l x=some (str a)):BA P n l S (.call ⟨.builtin .len,#[x],#[t]⟩) ty (.int .i64 a.length):=OS T (pt:=true) f h
def Arr {α:Type} (S:nP) (sz:Nat) (E:wD->Nat->Nat->α->Prop) (w:wD) (l:List α) (a:oA):Prop:=
 l=[] \/ ∃b o,a=some ⟨b,o,none⟩/\S b /\ ∀i x,l[i]? = some x->E w b (o+i*sz) x
def Arr.mono {α:Type} {S S':nP} {sz:Nat} {E f:wD->Nat->Nat->α->Prop} {w w':wD} {l:List α} {a:oA} (h:Arr S sz E w l a) (M : ∀b,S b->S' b) (N : ∀b o x,x∈l->S b->E w b o x->f w' b o x):Arr S' sz f w' l a:=by
 rcases h with h|⟨b,o,h1,F,O⟩
 . exact bC h
 . exact bF ⟨b,o,h1,M b F,fun i x L=>N _ _ _ (List.mem_of_getElem? L) F (O i x L)⟩
def Arr.get {α:Type} {S:nP} {sz:Nat} {E:wD->Nat->Nat->α->Prop} {w:wD} {l:List α} {a:oA} (h:Arr S sz E w l a) (f:0<l.length) :
 ∃b o,a=some ⟨b,o,none⟩/\S b /\ ∀i x,l[i]? = some x->E w b (o+i*sz) x:=by
 rcases h with h|h
 . subst h;simp at f
 . exact h
def TB (w:wD) (b:Nat) (vs:lV) (T:TypeId):Prop:=w.heap[b]? = some (.cells vs.toArray T (0,0))
def TB.blk {w:wD} {b:Nat} {vs:lV} {T:TypeId} (h:TB w b vs T):Blk w b vs:=⟨T,h⟩
def TB.ext {w w':wD} {b:Nat} {vs:lV} {T:TypeId} (h:TB w b vs T) (e:Ext w w'):TB w' b vs T:=(e.block h.blk.lt).trans h
def TB.set {w:wD} {b i:Nat} {vs:lV} {T:TypeId} (h:TB w b vs T) (v:Value):TB (w.setCell ⟨b,i,none⟩ v) b (vs.set i v) T:=by
 have f:w.heap[b]? = some (.cells vs.toArray T (0,0)):=h;unfold TB;simp [World.setCell,Array.getElem?_modify,f]
def Hh {P:Program} {T:TypeId} : ∀(us:lV) (w:wD) (b o i:Nat) (vs:lV),TB w b vs T->o+i+us.length<=vs.length->us.all Value.one=true ->
 ∃f,(storeCells ⟨b,o,none⟩ us i).run P w = .ok () f/\Put w f b (Bi vs (o+i) us)/\TB f b (Bi vs (o+i) us) T
 | [],w,b,o,i,vs,h,_,_=>⟨w,rfl,⟨h.blk,Fr.refl _ _,rfl⟩,h⟩
 | u::r,w,b,o,i,vs,h,L,E=>by
  simp only [aV] at L;simp only [List.all_cons,bB] at E;have M:(⟨b,o,none⟩:Addr).add i=⟨b,o+i,none⟩:=by unfold cU;by_cases N:i=0<;>simp [N]
  have e:(storeCells ⟨b,o,none⟩ (u::r) i).run P w=(storeCells ⟨b,o,none⟩ r (i+1)).run P (w.setCell ⟨b,o+i,none⟩ u):=by
   simp only [storeCells,store,M,bind,Sem.bind];exact M0 h.blk (by omega) E.1 _
  obtain ⟨f,h1,F,O⟩:=Hh (P:=P) r _ b o (i+1) _ (h.set (i:=o+i) u) (by simp;omega) E.2;refine ⟨f,by rw [e,h1],⟨F.blk,((Fr.refl (· = b) w).setCell ⟨b,o+i,none⟩ u (bC rfl)).trans F.fr,?_⟩,O⟩;rw [F.size];simp [World.setCell]
section typed
variable {P:Program} {n:Nat} {ops:Array Oper} {Q:Exit->Act->wD->Prop} {rest:List Oper} {l:Sl} {w:wD} {tab:Tab}
 {d:Nat} {ty:TypeId} {pos:String} {after:Array Edge}
def Uw (w:wD) (vs:lV) (T:TypeId):Option Value->wD->Prop
 | some v,w1=> ∃b,v = .pointer (some ⟨b,0,none⟩)/\New w w1 b vs/\TB w1 b vs T
 | none,_=>False
def OT (w:wD) (vs:lV) (T:TypeId):TB (w.alloc (.cells vs.toArray T (0,0))) w.heap.size vs T:=by show (w.heap.push _)[w.heap.size]? = _;simp
def SU {x:Operand} {t:Nat} {v:Value} {vs:lV} (hx:ev l x=some v) (hv:v.cells=vs.toArray):Cr P n l (.box t x) ty w (Uw w vs t):=by
 unfold Cr;intro a dst pos after g next Q ha hn _;have e:(execOp a.eval ⟨dst,.box t x,ty,pos,after,g⟩).run P w = .ok (.value (.pointer (some ⟨w.heap.size,0,none⟩))) (w.alloc (.cells vs.toArray t (0,0))):=by
  simp [execOp,ha.ev hx,Instr.box,newVar,newRow,newObj,Sem.run,hv,bind,Sem.bind,pure]
 unfold Oper.wp;rw [e];exact hn _ _ ⟨_,rfl,ET _ _ _,OT _ _ _⟩
def OU {zt:Ey} {t:Nat} {vs:lV} (Z:Cy P zt) (hz:CT zt t=some vs):Cr P n l (.alloc t) ty w (Uw w vs t):=by
 unfold Cr;intro a dst pos after g next Q ha hn _;obtain ⟨i,v,h1,h2,h3⟩:=Fd Z hz;have e:(execOp a.eval ⟨dst,.alloc t,ty,pos,after,g⟩).run P w = .ok (.value (.pointer (some ⟨w.heap.size,0,none⟩))) (w.alloc (.cells vs.toArray t (0,0))):=by
  simp [execOp,Instr.alloc,zeroValue,typeInfo,program,newVar,newRow,newObj,Sem.run,h1,h2,h3,bind,Sem.bind,pure]
 unfold Oper.wp;rw [e];exact hn _ _ ⟨_,rfl,ET _ _ _,OT _ _ _⟩
def DX {x:Operand} {t:Nat} {v:Value} {vs:lV} (E:ev l x=some v) (F:v.cells=vs.toArray) (L:bM d n=true)
 (k : ∀b f,New w f b vs->TB f b vs t->LW P n ops Q rest ((d,.pointer (some ⟨b,0,none⟩))::l) f):LW P n ops Q (⟨some d,.box t x,ty,pos,after,none⟩::rest) l w:=
 Au (SU E F) L (fun _ f ⟨b,h,hn,ht⟩=>h▸k b f hn ht) (fun _ h=>h)
def Ep {zt:Ey} {t:Nat} {vs:lV} (Z:Cy P zt) (E:CT zt t=some vs) (F:bM d n=true)
 (k : ∀b f,New w f b vs->TB f b vs t->LW P n ops Q rest ((d,.pointer (some ⟨b,0,none⟩))::l) f):LW P n ops Q (⟨some d,.alloc t,ty,pos,after,none⟩::rest) l w:=
 Au (OU Z E) F (fun _ f ⟨b,h,hn,ht⟩=>h▸k b f hn ht) (fun _ h=>h)
def OV (us vs:lV) (h:us.length=vs.length):Bi vs 0 us=us:=by
 have:=Ku us vs [] [] h;simpa using this
def SW {x y:Operand} {t sz b o:Nat} {T:TypeId} {s:Sk} {v:Value} {vs us:lV} (TT:TabOk P tab) (ht:AD tab t=some (s,sz)) (hx:ev l x=some (.pointer (some ⟨b,o,none⟩))) (hy:ev l y=some v)
 (hv:v.cells=us.toArray) (hl:us.length=sz) (h1:us.all Value.one=true) (hb:TB w b vs T) (ho:cY (o+us.length) vs.length=true)
 (k : ∀w1,Put w w1 b (Bi vs o us)->TB w1 b (Bi vs o us) T->LW P n ops Q rest l w1):LW P n ops Q (⟨none,.store t x y,ty,pos,after,none⟩::rest) l w:=by
 refine DA (K:=fun v w1=>v=none/\Put w w1 b (Bi vs o us)/\TB w1 b (Bi vs o us) T) ?_ (fun v w1 h=>k w1 h.2.1 h.2.2);unfold Cr;intro a dst pos after g next Q ha _ hn;obtain ⟨w1,e1,e2,e3⟩:=Hh (P:=P) us w b o 0 vs hb (by simpa using ho) h1;have e:(execOp a.eval ⟨dst,.store t x y,ty,pos,after,g⟩).run P w = .ok .skip w1:=by
  have hcs:v.cells.toList=us:=by rw [hv]
  have hsz:v.cells.size=sz:=by rw [hv];simpa using hl
  simp only [execOp,ha.ev hx,ha.ev hy,Instr.storeAt,Instr.sureAddr,bL,bW,bG,storeVar,C2 (TT _ _ _ ht),hsz,hcs];simp only [ne_eq,not_true,if_false,e1]
 unfold Oper.wp;rw [e];exact hn _ ⟨rfl,e2,e3⟩
def Gk {w0:wD} {x y:Operand} {t sz b:Nat} {T:TypeId} {s:Sk} {v:Value} {vs us:lV} (E:TabOk P tab) (F:AD tab t=some (s,sz)) (L:ev l x=some (.pointer (some ⟨b,0,none⟩))) (M:ev l y=some v)
 (N:v.cells=us.toArray) (O:us.length=sz) (h1:us.all Value.one=true) (U:New w0 w b vs) (V:TB w b vs T) (h:us.length=vs.length)
 (k : ∀f,New w0 f b us->TB f b us T->LW P n ops Q rest l f):LW P n ops Q (⟨none,.store t x y,ty,pos,after,none⟩::rest) l w:=
 SW E F L M N O h1 V (by simp [h]) (fun f p q=>by
  rw [OV us vs h] at p q;exact k f (U.put p) q)
end typed
def Fr.of_grown {w w':wD} {row:Option Nat} (h:w.grownBy w' row):Fr (fun k=>some k=row) w w':=⟨h.os,h.tape,h.output,h.size,fun k f E=>h.block k f E⟩
abbrev Own (w:wD) (b:Nat) (e:TypeId) (sz:Nat) (v:Value) (n:Nat) (cs:lV):Prop:=w.ownsRow b e sz v n cs
def Own.nil {w:wD} {b e sz:Nat}:Own w b e sz (.slice none 0 0) 0 []:=⟨by simp,bC ⟨rfl,rfl⟩⟩
def Own.ext {w w':wD} {b e sz n:Nat} {v:Value} {cs:lV} (h:Own w b e sz v n cs) (x:Ext w w'):Own w' b e sz v n cs:=by
 refine h.kept (row:=none) ⟨Below.os x,Below.tape x,Below.output x,Below.size x,fun k f _=>x.block f⟩ ?_;cases hv:v.ownBlock<;>simp
def Own.blk {w:wD} {b e sz n:Nat} {v:Value} {cs:lV} (h:Own w b e sz v n cs) {k:Nat} (f:v.ownBlock=some k):b<=k/\k<w.heap.size:=by
 obtain ⟨-,⟨rfl,-⟩|⟨g,cap,L,rfl,M,F,-⟩⟩:=h
 . simp [cV] at f
 . simp [cV] at f;subst f;refine ⟨M,?_⟩;rcases bQ g w.heap.size with E|E
   . exact E
   . rw [cJ E] at F;cases F
def Own.fr {S:nP} {w w':wD} {b e sz n:Nat} {v:Value} {cs:lV} (h:Own w b e sz v n cs) (x:Fr S w w') (F : ∀k,v.ownBlock=some k -> ¬S k):Own w' b e sz v n cs:=by
 have L : ∀k,v.ownBlock=some k->b<=k/\k<w.heap.size:=fun k M=>h.blk M
 obtain ⟨h1,N|⟨g,cap,f,rfl,O,U,V⟩⟩:=h
 . exact ⟨h1,bC N⟩
 . obtain ⟨-,E⟩:=L g rfl;exact ⟨h1,bF ⟨g,cap,f,rfl,O,by rw [x.block g E (F g rfl)];exact U,V⟩⟩
def Own.row {w:wD} {b e sz n:Nat} {v:Value} {cs:lV} (h:Own w b e sz v n cs):(v = .slice none 0 0/\n=0/\cs=[]) \/ ∃g cap,v = .slice (some ⟨g,0,none⟩) n cap/\b<=g/\v.ownBlock=some g/\Row w ⟨g,0,none⟩ cs:=by
 obtain ⟨h1,⟨rfl,rfl⟩|⟨g,cap,E,rfl,L,M,-,-,-,N⟩⟩:=h
 . exact bC ⟨rfl,rfl,by simpa using h1⟩
 . refine bF ⟨g,cap,rfl,L,rfl,fun i u f=>?_⟩;have e:(⟨g,0,none⟩:Addr).add i=⟨g,i,none⟩:=by unfold cU;by_cases O:i=0<;>simp [O]
   rw [e];rw [<-N] at f;have F:E.toList[i]? = some u:=by
    rw [List.getElem?_take] at f;split at f
    . exact f
    . cases f
   simpa [World.cell?,M] using F
def ZZ (w:wD) (b:Nat) (e:TypeId) (sz:Nat) (v:Value) (n:Nat) (cs:lV):Option Value->wD->Prop
 | some v',w'=>Own w' b e sz v' n cs/\Fr (fun k=>v.ownBlock=some k) w w' /\ ∃g cap,v' = .slice (some ⟨g,0,none⟩) n cap/\(v.ownBlock=some g\/w.heap.size<=g)
 | none,_=>False
def Do (P:Program) (e:TypeId):Bool:=match P.info? e with
 | some i=>cY i.bytes 1000
 | none=>false
def R0 (v:Value):Value.one v=v.oneCell':=by cases v<;>rfl
section app
variable {P:Program} {n:Nat} {l:Sl} {w:wD} {tab:Tab} {zt:Ey} {ty:TypeId}
def Er {x y:Operand} {t e sz1 sz b k m cap:Nat} {sE:Sk} {zs:lV} {v:Value} {cs us:lV} {p:Addr} (T:TabOk P tab) (Z:Cy P zt) (ht:AD tab t=some (.slice e,sz1)) (hE:AD tab e=some (sE,sz)) (hz:CT zt e=some zs) (hzl:zs.length=sz)
 (hby:Do P e=true) (hsz:bM 0 sz=true) (hx:ev l x=some v) (hy:ev l y=some (.slice (some p) m cap)) (hown:Own w b e sz v k cs) (hr:Row w p us) (hul:us.length=m*sz) (hu:us.all Value.one=true) (hkm:k+m<=100000000000) (hm0:0<k+m) (hb:b<=w.heap.size) :
 Cr P n l (.call ⟨.builtin .append,#[x,y],#[t,t]⟩) ty w (ZZ w b e sz v (k+m) (cs++us)):=by
 unfold Cr;intro a dst pos after g next Q ha hn _;obtain ⟨i,v0,z1,z2,z3⟩:=Fd Z hz;obtain ⟨i',hi',hs'⟩:=(T _ _ _ hE).info;rw [z1] at hi';obtain rfl:=bO hi';have hbb:i.bytes<=1000:=by
  unfold Do at hby;rw [z1] at hby;exact cE hby
 have hzs:v0.cells.size=sz:=by rw [z3];simpa using hzl
 have hsz':0<sz:=cE hsz;have hbytes:(k+m)*i.bytes<=140737488355328:=by have:=Nat.mul_le_mul hkm hbb;omega
 have hnews : ∀j u,us[j]? = some u->w.cell? (p.add j)=some u:=fun j u hj=>hr j u hj
 have h1c : ∀u∈us,u.oneCell'=true:=fun u hm=>by rw [<-R0];exact cX.1 hu u hm
 have hu':P.underlying t=some (.slice e):=(T _ _ _ ht).under;obtain ⟨v',w',hrun,h1,h2,h3⟩:=run_append_own (P:=P) w b t ty e i v0 sz i.bytes hu' z1 z2 hs' rfl hzs hsz' v k cs hown p m cap us hul hnews h1c (by unfold maxLen;omega) hbytes hb;have hwhere : ∃g cap',v' = .slice (some ⟨g,0,none⟩) (k+m) cap'/\(v.ownBlock=some g\/w.heap.size<=g):=by
  subst hs';rcases hown.2 with ⟨rfl,rfl⟩|⟨g,cap',cur,rfl,hbg,hg,hnc,hcm,hcs,htake⟩
  . by_cases hm:m=0
    . omega
    . have hr':=run_append_nil (P:=P) w t ty e i v0 hu' z1 z2 p m cap us hul hnews (by omega) (by omega) (by have hb:=hbytes;simp only [Nat.zero_add] at hb;omega);rw [hr'] at hrun;simp only [Result.ok.injEq] at hrun;exact ⟨w.heap.size,_,by rw [<-hrun.1,Nat.zero_add],bF (bJ _)⟩
  . by_cases hroom:k+m<=cap'
    . have hfit:k*i.size+us.length<=cur.size:=by rw [hul,hcs,<-Nat.add_mul];exact Nat.mul_le_mul_right _ hroom
      have hr':=run_append_room (P:=P) w t ty e i hu' z1 g k cap' cur hg p m cap us hul hnews h1c hroom hfit;rw [hr'] at hrun;simp only [Result.ok.injEq] at hrun;exact ⟨g,_,hrun.1.symm,bC rfl⟩
    . have holds : ∀j u,cs[j]? = some u->w.cell? ((⟨g,0,none⟩:Addr).add j)=some u:=hown.cells (g:=g) rfl;have hr':=run_append_grow (P:=P) w t ty e i v0 hu' z1 z2 ⟨g,0,none⟩ k cap' cs hown.1 holds p m cap us hul hnews (by omega) (by omega) (growslice_fits (by omega) hbytes);rw [hr'] at hrun;simp only [Result.ok.injEq] at hrun;exact ⟨w.heap.size,_,hrun.1.symm,bF (bJ _)⟩
 have e1:(execOp a.eval ⟨dst,.call ⟨.builtin .append,#[x,y],#[t,t]⟩,ty,pos,after,g⟩).run P w = .ok (.value v') w':=by
  simp only [execOp,resolve,invoke,builtin,bL,bW,Result.andThen_ok,List.map_toArray,List.map_cons,List.map_nil,ha.ev hx,ha.ev hy,hrun]
 unfold Oper.wp;rw [e1];exact hn v' w' ⟨h1,⟨h2.os,h2.tape,h2.output,h2.size,fun j hj hs=>h2.block j hj (fun e=>hs e.symm)⟩,hwhere⟩
end app
def BE (es:List MapEntry) (kvs:List (lB×Value)):Prop:=es.map (fun e=>(e.key,e.val))=kvs.map (fun p=>(str p.1,p.2))
def MapIs (w:wD) (r:Nat) (kvs:List (lB×Value)):Prop:= ∃es clock,w.heap[r]? = some (.map es clock)/\BE es.toList kvs
def Jc:List (lB×Value)->lB->Option Value
 | [],_=>none
 | p::r,k=>if k=p.1 then some p.2 else Jc r k
def K6:List (lB×Value)->lB->Value->List (lB×Value)
 | [],k,v=>[(k,v)]
 | p::r,k,v=>if k=p.1 then (p.1,v)::r else p::K6 r k v
def MapIs.lt {w:wD} {r:Nat} {f:List (lB×Value)} (h:MapIs w r f):r<w.heap.size:=by
 obtain ⟨F,c,h,-⟩:=h;rcases bQ r w.heap.size with E|E
 . exact E
 . rw [cJ E] at h;cases h
def MapIs.ext {w w':wD} {r:Nat} {f:List (lB×Value)} (h:MapIs w r f) (x:Ext w w'):MapIs w' r f:=by
 have E:=h.lt;obtain ⟨F,c,h,e⟩:=h;exact ⟨F,c,by rw [x.block E];exact h,e⟩
def MapIs.fr {S:nP} {w w':wD} {r:Nat} {f:List (lB×Value)} (h:MapIs w r f) (x:Fr S w w') (E : ¬S r):MapIs w' r f:=by
 have F:=h.lt;obtain ⟨L,c,h,e⟩:=h;exact ⟨L,c,by rw [x.block r F E];exact h,e⟩
def R1 (b:ByteArray) (x:lB):(b==(⟨x.toArray⟩:ByteArray))=(b.data.toList==x):=by
 show (b.data==x.toArray)=_;rw [Bool.eq_iff_iff];simp;constructor
 . intro h;rw [h]
 . intro h;rw [<-h]
def Kw : ∀(F:List MapEntry) (f:List (lB×Value)) (k:lB) (i:Nat),BE F f ->
 ∃o,Instr.findNow .string (str k) F i=some o/\(o.map (·.2)=Jc f k) /\ ∀j v,o=some (j,v)->i<=j /\ ∃e,F[j-i]? = some e/\e.key=str k /\ ∀L,BE (F.set (j-i) { e with key:=str k,val:=L }) (K6 f k L)
 | [],[],k,i,_=>⟨none,rfl,rfl,fun _ _ h=>by cases h⟩
 | [],_::_,_,_,h=>by simp [BE] at h
 | _::_,[],_,_,h=>by simp [BE] at h
 | e::F,(N,L)::f,k,i,h=>by
  simp only [BE,List.map_cons,cK,cO] at h;obtain ⟨⟨M,O⟩,U⟩:=h;have V:Instr.sameNow .string (str k) e.key=some (decide (k=N)):=by
   rw [M];simp only [Instr.sameNow];rw [R1];simp [Lb]
  by_cases E:k=N
  . subst E;refine ⟨some (i,e.val),by simp [Instr.findNow,V],by simp [Jc,O],fun j v h=>?_⟩;simp only [bK,cO] at h;obtain ⟨rfl,-⟩:=h;refine ⟨bJ _,e,by simp,M,fun L=>?_⟩;simp [BE,K6,U]
  . obtain ⟨o,h1,Y,Z⟩:=Kw F f k (i+1) U;refine ⟨o,by simp [Instr.findNow,V,E,h1],by simp [Jc,E,Y],fun j v h=>?_⟩;obtain ⟨g1,e',g2,g3,g4⟩:=Z j v h;have X:j-i=(j-(i+1))+1:=by omega
    refine ⟨by omega,e',by rw [X];simpa using g2,g3,fun L=>?_⟩;rw [X];have:=g4 L;simp only [BE] at this ⊢;simp [K6,E,M,O,this]
section maps
variable {P:Program} {n:Nat} {l:Sl} {w:wD} {tab:Tab} {zt:Ey} {ty:TypeId}
def run_findKey {F:Nat} (M:P.underlying F=some .string) {E:List MapEntry} {f:List (lB×Value)} {k:lB} (h:BE E f) (w:wD) :
 ∃o,(Instr.findKey F (str k) E).run P w = .ok o w/\(o.map (·.2)=Jc f k) /\ ∀j v,o=some (j,v) -> ∃e,E[j]? = some e/\e.key=str k /\ ∀L,BE (E.set j { e with key:=str k,val:=L }) (K6 f k L):=by
 obtain ⟨o,h1,N,O⟩:=Kw E f k 0 h;refine ⟨o,by simp [Instr.findKey,AK M,bG,h1],N,fun j v U=>?_⟩;obtain ⟨-,e,V,g3,g4⟩:=O j v U;exact ⟨e,by simpa using V,g3,by simpa using g4⟩
def run_checkKey {f:Nat} (h:P.underlying f=some .string) (b:Bool) (k:lB) (w:wD):(Instr.checkKey b 10000 f (str k)).run P w = .ok () w:=by
 rw [show (10000:Nat)=9999+1 from rfl,Instr.checkKey];simp [AK h,bG]
def Lf (o:Option Value) (z:Value) (c:Bool):Value:=if c then .tuple #[o.getD z,.bool o.isSome] else o.getD z
def Lp {S:wD->Prop} {x y:Operand} {t E e F L r:Nat} {c:Bool} {k:lB} {z:Value} {f:List (lB×Value)} (T:TabOk P tab) (X:AD tab t=some (.map E e,F)) (M:AD tab E=some (.str,L)) (N:((P.info? e).bind (·.zero))=some z)
 (Y:ev l x=some (.map (some r))) (Z:ev l y=some (str k)) (hm : ∀w,S w->MapIs w r f):BA P n l S (.lookup t x y c) ty (Lf (Jc f k) z c):=by
 unfold BA;intro a w aa pos after g U hS;have hu:P.underlying t=some (.map E e):=(T _ _ _ X).under;have V:P.underlying E=some .string:=(T _ _ _ M).under;obtain ⟨es,h,hh,he⟩:=hm w hS;obtain ⟨i0,z1,z2⟩ : ∃i,P.info? e=some i/\i.zero=some z:=by
  cases hi:P.info? e with
  | none=>rw [hi] at N;cases N
  | some i=>exact ⟨i,rfl,by simpa [hi] using N⟩
 obtain ⟨o,h1,h2,-⟩:=run_findKey V (k:=k) he w;have O:(zeroValue e).run P w = .ok z w:=by simp [zeroValue,typeInfo,program,Sem.run,z1,z2,bind,Sem.bind,pure]
 have e1:(Instr.lookup t (.map (some r)) (str k) c).run P w = .ok (Lf (Jc f k) z c) w:=by
  have hg:(getObj r).run P w = .ok (.map es h) w:=by simp [getObj,Sem.run,hh]
  simp only [Instr.lookup,bL,AK hu,bG,hg,bW,run_checkKey V,h1];rw [<-h2];cases o with
  | none=>simp [O,Lf]
  | some q=>simp [Lf]
 simp only [execOp,U.ev Y,U.ev Z,bL,e1,bG,bW]
def Yn (w:wD):Option Value->wD->Prop
 | some v,w1=> ∃r,v = .map (some r)/\r=w.heap.size/\MapIs w1 r []/\Ext w w1/\w1.heap.size=r+1
 | none,_=>False
def NW {t:Nat}:Cr P n l (.makeMap t none) ty w (Yn w):=by
 unfold Cr;intro a dst pos after g next Q ha hn _;have e1:(execOp a.eval ⟨dst,.makeMap t none,ty,pos,after,g⟩).run P w = .ok (.value (.map (some w.heap.size))) (w.alloc (.map #[] 0)):=by
  simp [execOp,Instr.makeMap,newObj,Sem.run,bind,Sem.bind,pure]
 unfold Oper.wp;rw [e1];exact hn _ _ ⟨_,rfl,rfl,⟨#[],0,by show (w.heap.push _)[w.heap.size]? = _;simp,by simp [BE]⟩,(Ext.refl w).alloc _,by show (w.heap.push _).size=_;simp⟩
def Yo (w:wD) (r:Nat) (kvs:List (lB×Value)):Option Value->wD->Prop
 | none,w1=>MapIs w1 r kvs/\Fr (· = r) w w1/\w1.heap.size=w.heap.size
 | some _,_=>False
def Lq (w:wD) (r:Nat) (o f:Obj) (h:w.heap[r]? = some o):({ w with heap:=w.heap.setIfInBounds r f }:wD).heap[r]? = some f/\Fr (· = r) w { w with heap:=w.heap.setIfInBounds r f }:=by
 have E:r<w.heap.size:=(Array.getElem?_eq_some_iff.1 h).1;refine ⟨by simp [E],rfl,rfl,rfl,by simp,fun k L F=>?_⟩;exact Array.getElem?_setIfInBounds_ne (fun e=>F e.symm)
def MJ {t O e Y Z r:Nat} {k:lB} {v:Value} {E:List (lB×Value)} (T:TabOk P tab) (ht:AD tab t=some (.map O e,Y)) (aa:AD tab O=some (.str,Z)) (hm:MapIs w r E) :
 ∃U,(Instr.mapUpdate t (.map (some r)) (str k) v).run P w = .ok () U/\MapIs U r (K6 E k v)/\Fr (· = r) w U/\U.heap.size=w.heap.size:=by
 have hu:P.underlying t=some (.map O e):=(T _ _ _ ht).under;have hk:P.underlying O=some .string:=(T _ _ _ aa).under;obtain ⟨F,f,V,he⟩:=hm;obtain ⟨o,h1,h2,h3⟩:=run_findKey hk (k:=k) he w;have hg:(getObj r).run P w = .ok (.map F f) w:=by simp [getObj,Sem.run,V]
 have L : ∀ob,(setObj r ob).run P w = .ok () { w with heap:=w.heap.setIfInBounds r ob }:=fun ob=>by simp [setObj,Sem.run,V]
 cases o with
 | none=>
  have ab:Jc E k=none:=by simpa using h2.symm
  obtain ⟨p1,p2⟩:=Lq w r _ (.map (F.push { key:=str k,val:=v,born:=f }) (f+1)) V;refine ⟨_,?_,⟨_,_,p1,?_⟩,p2,by simp⟩
  . simp only [Instr.mapUpdate,bL,AK hu,bG,hg,run_checkKey hk,h1,L]
  . have key : ∀(F:List MapEntry) (E:List (lB×Value)),BE F E->Jc E k=none->BE (F++[{ key:=str k,val:=v,born:=f }]) (K6 E k v):=by
     intro F E
     induction E generalizing F with
     | nil=>intro h _;cases F with|nil=>simp [BE,K6]|cons _ _=>simp [BE] at h
     | cons p r ih=>
      intro h X;cases F with
      | nil=>simp [BE] at h
      | cons e F=>
       simp only [Jc] at X;split at X
       . cases X
       . rename_i ac;simp only [BE,List.map_cons,cK] at h;have:=ih F h.2 X;simp only [BE] at this ⊢;simp [K6,ac,h.1,this]
    simpa using key F.toList E he ab
 | some q=>
  obtain ⟨j,u⟩:=q;obtain ⟨en,g1,g2,g3⟩:=h3 j u rfl;have M:(Instr.keyThatStays (((F[j]?).map (·.key)).getD (str k)) (str k)).run P w = .ok (str k) w:=by
   have:F[j]? = some en:=by simpa using g1
   rw [this];have hb:((⟨k.toArray⟩:ByteArray)==⟨k.toArray⟩)=true:=by rw [R1];simp
   simp [Instr.keyThatStays,g2,Instr.sameBits,hb]
  obtain ⟨p1,p2⟩:=Lq w r _ (.map (F.modify j fun e=>{ e with key:=str k,val:=v }) f) V;refine ⟨_,?_,⟨_,_,p1,?_⟩,p2,by simp⟩
  . simp only [Instr.mapUpdate,bL,AK hu,bG,hg,run_checkKey hk,h1,M,L]
  . have:=g3 v;have e:(F.modify j fun e=>{ e with key:=str k,val:=v }).toList=F.toList.set j { en with key:=str k,val:=v }:=by
     apply List.ext_getElem?;intro i;have gj:F[j]? = some en:=by simpa using g1
     rw [Array.getElem?_toList,Array.getElem?_modify,List.getElem?_set];by_cases N:j=i
     . subst N;have ad:j<F.size:=(Array.getElem?_eq_some_iff.1 gj).1;rw [AU rfl,AU rfl,gj];simp [ad]
     . simp [N]
    rw [e];exact this
end maps
section strs
variable {P:Program} {n:Nat} {l:Sl} {S:wD->Prop} {tab:Tab} {ty:TypeId} {x y z:Operand} {t t' sz:Nat} {a:lB}
def Ee (a:lB):(⟨a.toArray⟩:ByteArray).size=a.length:=by simp [ByteArray.size]
def Yp (a:lB) (i:Nat):(⟨a.toArray⟩:ByteArray)[i]? = a[i]? := by
 by_cases h:i<a.length
 . rw [aY h];have f:i<(⟨a.toArray⟩:ByteArray).size:=by rw [Ee];exact h
   rw [getElem?_pos _ i f];rfl
 . rw [bS (by omega)];have f : ¬i<(⟨a.toArray⟩:ByteArray).size:=by rw [Ee];exact h
   rw [getElem?_neg _ i f]
def FE {k:IntKind} {j:Int} {c:UInt8} (T:TabOk P tab) (h:AD tab t=some (.str,sz)) (E:ev l x=some (str a)) (F:ev l y=some (.int k j)) (L:0<=j) (M:a[j.toNat]? = some c):BA P n l S (.index t x y) ty (.int .u8 c.toNat):=by
 unfold BA;intro b w N pos after g f _;have O:P.underlying t=some .string:=(T _ _ _ h).under;have e:(Instr.index t (str a) (.int k j)).run P w = .ok (.int .u8 c.toNat) w:=by
  simp [Instr.index,asIntOf,AK O,bG,L,Yp,M]
 simp [execOp,f.ev E,f.ev F,e]
def IX (a:lB) (i j:Nat):(⟨a.toArray⟩:ByteArray).extract i j=⟨((a.take j).drop i).toArray⟩:=by
 apply ByteArray.ext;simp [ByteArray.data_extract,List.drop_take]
def EA {k:IntKind} {i:Int} {m:Nat} {f:BoundsCode} (h:0<=i) (h1:i<=m) (w:wD):(Instr.sliceBound (.int k i) m f).run P w = .ok i.toNat w:=by
 simp [Instr.sliceBound,asIntOf,h,h1]
def SX {k:IntKind} {i:Int} (T:TabOk P tab) (h:AD tab t=some (.str,sz)) (E:ev l x=some (str a)) (F:ev l y=some (.int k i)) (L:0<=i) (h1:i<=a.length):BA P n l S (.slice t x (some y) none none) ty (str (a.drop i.toNat)):=by
 unfold BA;intro b w M pos after g f _;have N:P.underlying t=some .string:=(T _ _ _ h).under;have e:(Instr.sliceAt t (str a) (some (.int k i)) none none).run P w = .ok (str (a.drop i.toNat)) w:=by
  have O:=IX a i.toNat a.length;simp only [Instr.sliceAt,bL,AK N,bG,Instr.slice,Option.isSome_none,dH,if_false,Instr.sliceBounds,bW,Ee,EA L h1];simp [O]
 simp [execOp,f.ev E,f.ev F,e]
def M4 {k:IntKind} {i:Int} (T:TabOk P tab) (h:AD tab t=some (.str,sz)) (E:ev l x=some (str a)) (F:ev l y=some (.int k i)) (L:0<=i) (h1:i<=a.length):BA P n l S (.slice t x none (some y) none) ty (str (a.take i.toNat)):=by
 unfold BA;intro b w M pos after g f _;have N:P.underlying t=some .string:=(T _ _ _ h).under;have e:(Instr.sliceAt t (str a) none (some (.int k i)) none).run P w = .ok (str (a.take i.toNat)) w:=by
  have O:=IX a 0 i.toNat;simp only [Instr.sliceAt,bL,AK N,bG,Instr.slice,Option.isSome_none,dH,if_false,Instr.sliceBounds,bW,Ee,EA L h1];simp [O]
 simp [execOp,f.ev E,f.ev F,e]
def SY {k h:IntKind} {i j:Int} (T:TabOk P tab) (E:AD tab t=some (.str,sz)) (F:ev l x=some (str a)) (L:ev l y=some (.int k i)) (M:ev l z=some (.int h j)) (N:0<=i) (h1:i<=j) (O:j<=a.length):BA P n l S (.slice t x (some y) (some z) none) ty (str ((a.take j.toNat).drop i.toNat)):=by
 unfold BA;intro b w U pos after g f _;have V:P.underlying t=some .string:=(T _ _ _ E).under;have e:(Instr.sliceAt t (str a) (some (.int k i)) (some (.int h j)) none).run P w = .ok (str ((a.take j.toNat).drop i.toNat)) w:=by
  have X:=IX a i.toNat j.toNat;simp only [Instr.sliceAt,bL,AK V,bG,Instr.slice,Option.isSome_none,dH,if_false,Instr.sliceBounds,bW,Ee,EA (show 0<=j by omega) O];rw [EA N (by omega)];simp [X]
 simp [execOp,f.ev F,f.ev L,f.ev M,e]
end strs
def Wz (i:Int) (f:0<=i) (h1:i<=255):IntKind.u8.wrap i=i:=by rw [IntKind.wrap];simp [IntKind.signed,IntKind.bits];omega
def Ext.ext {a b c:wD} (h:Ext a b) (x:Ext b c):Ext a c:=h.trans x
def Fr.ext {S:nP} {a b c:wD} (h:Fr S a b) (x:Ext b c):Fr S a c:=h.trans (.of_ext x)
def Ext.fr {S:nP} {a b c:wD} (h:Ext a b) (x:Fr S b c) (E : ∀k,S k->a.heap.size<=k):Ext a c:=
 ⟨x.os.trans (Below.os h),x.tape.trans (Below.tape h),x.output.trans (Below.output h),cD h.size x.size,
  fun k f=>(x.block k (Nat.lt_of_lt_of_le f h.size) (fun F=>by have:=E k F;omega)).trans (h.block f)⟩
def Fr.fr {S T:nP} {a b c:wD} (h:Fr T a b) (x:Fr S b c) (F : ∀k,S k->T k\/a.heap.size<=k):Fr T a c:=
 ⟨x.os.trans h.os,x.tape.trans h.tape,x.output.trans h.output,cD h.size x.size,
  fun k f E=>(x.block k (Nat.lt_of_lt_of_le f h.size) (fun L=>by rcases F k L with h|h;exact E h;omega)).trans (h.block k f E)⟩
def TB.fr {S:nP} {w w':wD} {b:Nat} {vs:lV} {T:TypeId} (h:TB w b vs T) (x:Fr S w w') (f : ¬S b):TB w' b vs T:=(x.block b h.blk.lt f).trans h
def Fr.weaken {S T:nP} {w w':wD} (h:Fr S w w') (k : ∀b,S b->T b):Fr T w w':=⟨h.os,h.tape,h.output,h.size,fun b f E=>h.block b f (fun F=>E (k b F))⟩
section code
variable {P:Program} {n:Nat} {Q:Exit->Act->wD->Prop} {l:Sl} {w:wD} {c:Operand} {x y:Code}
def Jd {p:Prop} [Decidable p] [Decidable (¬p)] (f:ev l c=some (.bool (decide (¬p)))) (E : ¬p->CW P n x Q l w) (F:p->CW P n y Q l w):CW P n (.cond c x y) Q l w:=
 AH f E (fun h=>F (Decidable.not_not.1 h))
def XV {q:Bool} (f:ev l c=some (.bool (!q))) (E:q=false) (h:CW P n x Q l w):CW P n (.cond c x y) Q l w:=Fc f (by simp [E]) h
def XW {q:Bool} (f:ev l c=some (.bool (!q))) (E:q=true) (h:CW P n y Q l w):CW P n (.cond c x y) Q l w:=Fp f (by simp [E]) h
def Hp {q:Bool} (f:ev l c=some (.bool (!q))) (h:q=false->CW P n x Q l w) (E:q=true->CW P n y Q l w):CW P n (.cond c x y) Q l w:=
 CV f (fun e=>h (by simpa using e)) (fun e=>E (by simpa using e))
variable {ops:Array Oper} {rest:List Oper} {tab:Tab} {d:Nat} {ty:TypeId} {pos:String} {after:Array Edge}
def Cm {o:Oper} {g:Nat×Bool} {dj:Nat} {p:Prop} [Decidable p] (_:o.guard=some g) (_:BP ops g.1=some dj) (_:Ck l dj=some (.bool (decide p))) (f:p->LW P n ops Q (o::rest) l w) (E : ¬p->LW P n ops Q (o::rest) l w):LW P n ops Q (o::rest) l w:=by
 by_cases h:p
 . exact f h
 . exact E h
def GR {o:Oper} {g:Nat×Bool} {dj:Nat} {b:Bool} (_:o.guard=some g) (_:BP ops g.1=some dj) (_:Ck l dj=some (.bool b)) (f:b=true->LW P n ops Q (o::rest) l w) (E:b=false->LW P n ops Q (o::rest) l w):LW P n ops Q (o::rest) l w:=by
 cases h:b
 . exact E h
 . exact f h
def Zd {a:Operand} {t sz b o:Nat} {s:Sk} {vs:lV} {v:Value} (T:TabOk P tab) (f:AD tab t=some (s,sz)) (h:s.agg=false) (E:ev l a=some (.pointer (some ⟨b,o,none⟩)))
 (F:Blk w b vs) (L:vs[o]? = some v) (M:bM d n=true) (k:LW P n ops Q rest ((d,v)::l) w):LW P n ops Q (⟨some d,.load t a,ty,pos,after,none⟩::rest) l w:=
 A0 (Ax T f h E (fun O N=>by subst N;exact F.cell L)) M k
def Ze {a:Operand} {t sz b o i:Nat} {s:Sk} {vs:lV} {v:Value} (T:TabOk P tab) (f:AD tab t=some (s,sz)) (h:s.agg=false) (E:ev l a=some (.pointer (some ⟨b,o+i,none⟩)))
 (F:Row w ⟨b,o,none⟩ vs) (L:vs[i]? = some v) (M:bM d n=true) (k:LW P n ops Q rest ((d,v)::l) w):LW P n ops Q (⟨some d,.load t a,ty,pos,after,none⟩::rest) l w:=
 A0 (Ax T f h E (fun O N=>by subst N;exact F.at L)) M k
def Yq {a:Operand} {t sz b o:Nat} {s:Sk} {vs:lV} {v:Value} (T:TabOk P tab) (f:AD tab t=some (s,sz)) (h:s.agg=false) (E:ev l a=some (.pointer (some ⟨b,o,none⟩)))
 (F:Row w ⟨b,o,none⟩ vs) (L:vs[0]? = some v) (M:bM d n=true) (k:LW P n ops Q rest ((d,v)::l) w):LW P n ops Q (⟨some d,.load t a,ty,pos,after,none⟩::rest) l w:=
 A0 (Ax T f h E (fun O N=>by subst N;exact F.at0 L)) M k
def QR {a:Operand} {t sz b o:Nat} {s:Sk} {vs:lV} (T:TabOk P tab) (f:AD tab t=some (s,sz)) (h:s.agg=true) (E:ev l a=some (.pointer (some ⟨b,o,none⟩)))
 (F:Blk w b vs) (L:cY (o+sz) vs.length=true) (M:bM d n=true) (k:LW P n ops Q rest ((d,.agg ((vs.drop o).take sz).toArray)::l) w):LW P n ops Q (⟨some d,.load t a,ty,pos,after,none⟩::rest) l w:=
 A0 (C5 T f h E (fun O N=>by subst N;exact F) L) M k
def QS {a:Operand} {t sz b o i:Nat} {s:Sk} {vs:lV} (T:TabOk P tab) (f:AD tab t=some (s,sz)) (h:s.agg=true) (E:ev l a=some (.pointer (some ⟨b,o+i,none⟩)))
 (F:Row w ⟨b,o,none⟩ vs) (L:cY (i+sz) vs.length=true) (M:bM d n=true) (k:LW P n ops Q rest ((d,.agg ((vs.drop i).take sz).toArray)::l) w):LW P n ops Q (⟨some d,.load t a,ty,pos,after,none⟩::rest) l w:=
 A0 (Ga T f h E (fun O N=>by subst N;exact F) L) M k
def XX {a:Operand} {t sz b o:Nat} {s:Sk} {vs:lV} (T:TabOk P tab) (f:AD tab t=some (s,sz)) (h:s.agg=true) (E:ev l a=some (.pointer (some ⟨b,o,none⟩)))
 (F:Row w ⟨b,o,none⟩ vs) (L:vs.length=sz) (M:bM d n=true) (k:LW P n ops Q rest ((d,.agg vs.toArray)::l) w):LW P n ops Q (⟨some d,.load t a,ty,pos,after,none⟩::rest) l w:=
 A0 (A6 T f h E (fun O N=>by subst N;exact F) L) M k
def E4 {fn:Func} {R:Ending->wD->Prop} {t u s:Nat} {v x z:Value} (h:fn.results = #[.tmp t,.tmp u,.tmp s]) (E:Ck l t=some v) (F:Ck l u=some x) (L:Ck l s=some z) (M:R (.returned (.tuple #[v,x,z])) w):QW n (bodyPost P fn R) .ret l w:=by
 unfold QW;exact fun a f=>⟨f.defers,.tuple #[a.tmps.getD t undef,a.tmps.getD u undef,a.tmps.getD s undef],by simp [results,h],by rw [f.has t v E,f.has u x F,f.has s z L];exact M⟩
end code
def Lr (ops:Array Oper) (j i:Nat):Bool:=match ops[j]? with
 | none=>false
 | some o=>o.after.any fun e=>dB .any e&&cZ e.on i
def DC (ops:Array Oper) (listed:Array Bool):Prop:= ∀k o,ops[k]? = some o->listed.getD k false=true -> ∀e∈o.after,dB .any e=true->listed.getD e.on false=true
def GT {ops:Array Oper} {j i:Nat} (h:Lr ops j i=true) : ∃o e,ops[j]? = some o/\e∈o.after/\dB .any e=true/\e.on=i:=by
 unfold Lr at h;split at h
 . cases h
 . rename_i o E;obtain ⟨e,F,f⟩:=Array.any_eq_true'.1 h;simp only [bB] at f;exact ⟨o,e,E,F,f.1,cQ f.2⟩
def Gb (ops:Array Oper) (K i:Nat):Prop:= ∀(listed:Array Bool) (j:Nat) (o:Oper),DC ops listed->K<=j->ops[j]? = some o->(∀e∈o.after,dB .any e=true->listed.getD e.on false=true)->listed.getD i false=true
def Ls (ops:Array Oper) (K:Nat):Bool:=((List.range K).all fun i=>(List.range' (i+1) (K-i)).any fun j=>Lr ops j i)&&((List.range' (K+1) (ops.size-(K+1))).all fun j=>(List.range' K (j-K)).any fun i=>Lr ops j i)
def Gc {ops:Array Oper} {K:Nat} (h:Ls ops K=true) (hK:K<ops.size) : ∀i,i<K->Gb ops K i:=by
 simp only [Ls,bB,cX,List.mem_range,List.any_eq_true,List.mem_range'_1] at h;obtain ⟨h1,h2⟩:=h;intro i Y E j o V hj O f;have aa : ∀m j o,j<=K+m->K<=j->ops[j]? = some o->(∀e∈o.after,dB .any e=true->E.getD e.on false=true) -> ∀X,ops[K]? = some X -> ∀e∈X.after,dB .any e=true->E.getD e.on false=true:=by
  intro m
  induction m with
  | zero=>
   intro j o hm hj O f X F;have:j=K:=by omega
   subst this;rw [O] at F;obtain rfl:=bO F;exact f
  | succ m ih=>
   intro j o hm hj O f X F;by_cases U:j=K
   . subst U;rw [O] at F;obtain rfl:=bO F;exact f
   . have ad:j<ops.size:=(Array.getElem?_eq_some_iff.1 O).1;obtain ⟨Z,ab,hw⟩:=h2 j (by omega);obtain ⟨oj,e,L,he,hb,M⟩:=GT hw;rw [O] at L;obtain rfl:=bO L;have hl:=f e he hb;rw [M] at hl;have N:Z<ops.size:=by omega
     exact ih Z ops[Z] (by omega) ab.1 (Array.getElem?_eq_getElem N) (V Z _ (Array.getElem?_eq_getElem N) hl) X F
 have ac:=aa (j-K) j o (by omega) hj O f ops[K] (Array.getElem?_eq_getElem hK);have key : ∀d i,K-i<=d->i<K->E.getD i false=true:=by
  intro d
  induction d with
  | zero=>intro i h Y;omega
  | succ d ih=>
   intro i hd Y;obtain ⟨j',ae,hw⟩:=h1 i Y;obtain ⟨oj,e,L,he,hb,M⟩:=GT hw;by_cases U:j'=K
   . subst U;rw [Array.getElem?_eq_getElem hK] at L;obtain rfl:=bO L;have:=ac e he hb;rwa [M] at this
   . have hl:=ih j' (by omega) (by omega);have:=V j' oj L hl e he hb;rwa [M] at this
 exact key (K-i) i (bJ _) Y
section
variable {P:Program} {ops:Array Oper} {Q:Exit->Act->wD->Prop} {S:wD->Prop} {K:Nat}
def Hq (P:Program) (ops:Array Oper) (Q:Exit->Act->wD->Prop) (S:wD->Prop) (K:Nat):Nat->Array Bool->Act->wD->Prop
 | 0,listed,a,w=>bU .any ops listed=[]/\Q .normal a w
 | fuel+1,listed,a,w=>
  (bU .any ops listed=[]->Q .normal a w) /\
  ∀i∈bU .any ops listed,wpOp P ops Q i (fun a' w'=>(i<K->S w')/\Hq P ops Q S K fuel (listed.setIfInBounds i true) a' w') a w
def Lu : ∀(f:Nat) (E:Array Bool) (a:Act) (w:wD),Hq P ops Q S K f E a w->wpAny P .any ops Q f E a w
 | 0,_,_,_,h=>h
 | f+1,_,_,_,h=>⟨h.1,fun i F=>wpOp_mono (fun L w' M=>Lu f _ L w' M.2) (h.2 i F)⟩
def DC.set {f:Array Bool} (h:DC ops f) {j:Nat} (Z:j∈bU .any ops f):DC ops (f.setIfInBounds j true):=by
 obtain ⟨U,oj,M,E⟩:=mem_ready.1 Z;intro k o N V e X Y;have key:f.getD e.on false=true:=by
  by_cases F:j=k
  . subst F;rw [M] at N;obtain rfl:=bO N;exact E e X Y
  . refine h k o N ?_ e X Y;rw [getD_set_ne false F] at V;exact V
 by_cases L:j=e.on
 . subst L;rcases bQ e.on f.size with O|O
   . simp [O]
   . simp [cJ O] at key
 . rw [getD_set_ne false L];exact key
def NX {i:Nat} {oi:Oper} {v:Value} (hi:ops[i]? = some oi) (hK:i<K) (ae:Gb ops K i) (U : ∀(j:Nat) (o:Oper) cs b,ops[j]? = some o->o.op≠.select cs b)
 (hQ : ∀c a w,Q (.panic c) (a.put oi.dst v) w->Q (.panic c) a w) :
 ∀(E:Nat) (f:Array Bool) (a:Act) (w:wD),DC ops f ->
  (∀j V,ops[j]? = some V->j≠i->f.getD j true=false->(∀e∈V.after,dB .any e=true->e.on≠i)->oi.apart ops V=true) ->
  i∈bU .any ops f->YieldsIf P ops S oi v a->S w ->
  Hq P ops Q S K E (f.setIfInBounds i true) (a.put oi.dst v) w->Hq P ops Q S K (E+1) f a w:=by
 intro E
 induction E with
 | zero=>
  intro f a w _ _ Z hy hS H;refine ⟨fun h=>(by rw [h] at Z;cases Z),fun j hj=>?_⟩;by_cases F:j=i
  . subst F;exact hy.wpOp hi hS ⟨fun _=>hS,H⟩
  . have:=ready_mono hj F;rw [H.1] at this;cases this
 | succ E ih=>
  intro f a w aa L Z hy hS H;refine ⟨fun h=>(by rw [h] at Z;cases Z),fun j hj=>?_⟩;by_cases F:j=i
  . subst F;exact hy.wpOp hi hS ⟨fun _=>hS,H⟩
  . have h1:=H.2 j (ready_mono hj F);obtain ⟨X,V,N,Y⟩:=mem_ready.1 hj;have M : ¬f.getD i false=true:=fun hc=>by
     have h0:=(mem_ready.1 Z).1;rcases bQ i f.size with h'|h'
     . simp [h'] at h0 hc;rw [h0] at hc;cases hc
     . simp [cJ h'] at hc
    have ab:j<K:=by
     rcases bQ j K with h|h
     . exact h
     . exact absurd (ae f j V aa h N Y) M
    have ac : ∀e∈V.after,dB .any e=true->e.on≠i:=fun e he hb af=>M (af▸Y e he hb)
    have h2:=wpOp_putIf N (L j V N F X ac) (fun cs b=>U i oi cs b hi) (fun cs b=>U j V cs b N) hQ hy h1;have O : ∀k ok,ops[k]? = some ok->k≠i->(f.setIfInBounds j true).getD k true=false ->
     (∀e∈ok.after,dB .any e=true->e.on≠i)->oi.apart ops ok=true:=fun k ok hk ag M ah=>by
     refine L k ok hk ag ?_ ah;by_cases ad:j=k
     . subst ad;exact X
     . rw [getD_set_ne true ad] at M;exact M
    refine wpOp_mono (fun a' w' h3=>⟨fun _=>h3.2.1 ab,ih (f.setIfInBounds j true) a' w' (aa.set hj) O (ready_mono Z (Ne.symm F)) h3.1 (h3.2.1 ab) ?_⟩) h2;rw [Array.setIfInBounds_comm _ _ F];exact h3.2.2
end
inductive Sc where
 | done
 | pure (i:Nat) (r:Sc)
 | fork (i:Nat) (x r:Sc)
 | none
 | tail
def Sc.alts:Sc->List Nat
 | .fork i _ r=>i::r.alts
 | _=>[]
def Hi (ops:Array Oper):Nat->Nat->Array Bool->Bool
 | 0,_,listed=>(bU .any ops listed).isEmpty
 | f+1,k,listed=>(bU .any ops listed==[k])&&Hi ops f (k+1) (listed.setIfInBounds k true)
def Sc.ok (ops:Array Oper) (K:Nat):Bool->Sc->Nat->Array Bool->Bool
 | true,.done,_,listed=>(bU .any ops listed).isEmpty
 | true,.pure i r,f+1,listed=>bM i K&&(bU .any ops listed).contains i&&Region.free .any ops listed i&&Sc.ok ops K true r f (listed.setIfInBounds i true)
 | true,.fork i x r,f+1,listed=>(bU .any ops listed).all (fun j=>(i::r.alts).contains j)&&(bU .any ops listed).contains i&&Sc.ok ops K true x f (listed.setIfInBounds i true)&&Sc.ok ops K false r (f+1) listed
 | true,.tail,f,listed=>cZ (f+K) ops.size&&Hi ops f K listed
 | false,.fork i x r,f+1,listed=>(bU .any ops listed).contains i&&Sc.ok ops K true x f (listed.setIfInBounds i true)&&Sc.ok ops K false r (f+1) listed
 | false,.none,_,_=>true
 | _,_,_,_=>false
def HT (P:Program) (ops:Array Oper) (Q:Exit->Act->wD->Prop) (S:wD->Prop) (K:Nat):Sc->Act->wD->Prop
 | .done,a,w=>Q .normal a w
 | .pure i r,a,w=> ∃o v,ops.toList[i]? = some o/\YieldsIf P ops S o v a/\HT P ops Q S K r (a.put o.dst v) w
 | .fork i x r,a,w=>wpOp P ops Q i (fun a' w'=>S w'/\HT P ops Q S K x a' w') a w/\HT P ops Q S K r a w
 | .none,_,_=>True
 | .tail,a,w=>wpList P ops Q (ops.toList.drop K) a w
def J0 {P:Program} {ops:Array Oper} {Q:Exit->Act->wD->Prop} {S:wD->Prop} {K:Nat} : ∀(f k:Nat) (E:Array Bool) (a:Act) (w:wD),K<=k->f+k=ops.size->Hi ops f k E=true->wpList P ops Q (ops.toList.drop k) a w->Hq P ops Q S K f E a w
 | 0,k,E,a,w,O,U,F,h=>by
  have:ops.toList.drop k=[]:=List.drop_eq_nil_of_le (by simp;omega);rw [this] at h;exact ⟨by simpa [Hi] using F,h⟩
 | f+1,k,E,a,w,O,U,F,h=>by
  simp only [Hi,bB,beq_iff_eq] at F;have L:k<ops.toList.length:=by simp;omega
  rw [cW L] at h;refine ⟨fun e=>absurd (F.1.symm.trans e) (by simp),fun i M=>?_⟩;rw [F.1] at M;simp only [dG] at M;subst M;have V:ops[i]? = some ops.toList[i]:=by simp
  unfold wpList at h;unfold wpOp;rw [V];simp only;split
  . rename_i N;rw [AU N] at h;rcases h with h|h
    . exact bC (Oper.wp_mono (fun X w' Y=>⟨fun L=>by omega,J0 f (i+1) _ X w' (by omega) (by omega) F.2 Y⟩) h)
    . exact bF h
  . rename_i N;rw [AE N] at h;exact ⟨fun L=>by omega,J0 f (i+1) _ _ w (by omega) (by omega) F.2 h⟩
def HT.any {P:Program} {ops:Array Oper} {Q:Exit->Act->wD->Prop} {S:wD->Prop} {K:Nat} (Y:Region.noSelect ops=true) (M : ∀i,i<K->Gb ops K i) (Z:DV Q) :
 ∀(s:Sc) (f:Nat) (E:Array Bool) (a:Act) (w:wD),DC ops E->S w->HT P ops Q S K s a w ->
  (Sc.ok ops K true s f E=true->Hq P ops Q S K f E a w) /\
  (Sc.ok ops K false s f E=true -> ∀i∈s.alts,∀f',f=f'+1->wpOp P ops Q i (fun X w'=>(i<K->S w')/\Hq P ops Q S K f' (E.setIfInBounds i true) X w') a w)
 | .done,f,E,a,w,L,N,h=>by
  refine ⟨fun F=>?_,fun F=>by simp [Sc.ok] at F⟩;have U:bU .any ops E=[]:=by simpa [Sc.ok] using F
  cases f with
  | zero=>exact ⟨U,h⟩
  | succ f=>exact ⟨fun _=>h,by rw [U];simp⟩
 | .none,f,E,a,w,L,N,h=>⟨fun F=>by simp [Sc.ok] at F,fun F=>by simp [Sc.alts]⟩
 | .tail,f,E,a,w,L,N,h=>⟨fun F=>by
  simp only [Sc.ok,bB] at F;exact J0 f K E a w (bJ _) (cQ F.1) F.2 h,fun F=>by simp [Sc.ok] at F⟩
 | .pure i r,0,E,a,w,L,N,h=>⟨fun F=>by simp [Sc.ok] at F,fun F=>by simp [Sc.ok] at F⟩
 | .pure i r,f+1,E,a,w,L,N,h=>⟨fun F=>by
  simp only [Sc.ok,bB] at F;obtain ⟨o,v,ho,hy,U⟩:=h;have hi:ops[i]? = some o:=by simpa using ho
  have O:i∈bU .any ops E:=by simpa using F.1.1.2
  exact NX hi (cE F.1.1.1) (M i (cE F.1.1.1)) (Region.noSelect_spec Y) (fun c a w=>Z o.dst v c a w) f E a w L (Region.free_spec hi F.1.2) O hy N
   ((HT.any Y M Z r f _ _ w (L.set O) N U).1 F.2),fun F=>by simp [Sc.ok] at F⟩
 | .fork i x r,0,E,a,w,L,N,h=>⟨fun F=>by simp [Sc.ok] at F,fun F=>by simp [Sc.ok] at F⟩
 | .fork i x r,f+1,E,a,w,L,N,h=>by
  have key:i∈bU .any ops E->Sc.ok ops K true x f (E.setIfInBounds i true)=true->wpOp P ops Q i (fun X w'=>(i<K->S w')/\Hq P ops Q S K f (E.setIfInBounds i true) X w') a w:=fun O F=>
   wpOp_mono (fun X w' h'=>⟨fun _=>h'.1,(HT.any Y M Z x f _ X w' (L.set O) h'.1 h'.2).1 F⟩) h.1
  have U:=HT.any Y M Z r (f+1) E a w L N h.2;refine ⟨fun F=>?_,fun F j V f' hf=>?_⟩
  . simp only [Sc.ok,bB] at F;obtain ⟨⟨⟨h1,h4⟩,h2⟩,h3⟩:=F;refine ⟨fun e=>by rw [e] at h4;simp at h4,fun j V=>?_⟩;have:=cX.1 h1 j V;simp only [List.contains_eq_mem,bR,decide_eq_true_eq] at this;rcases this with rfl|aa
    . exact key V h2
    . exact U.2 h3 j aa f rfl
  . simp only [Sc.ok,bB] at F;obtain rfl:f=f':=by omega
    simp only [Sc.alts,bR] at V;rcases V with rfl|V
    . exact key (by simpa using F.1.1) F.1.2
    . exact U.2 F.2 j V f rfl
def Lv {α:Type}:Nat->List α->Option (List α)
 | 0,l=>some l
 | _+1,[]=>some []
 | k+1,_::l=>Lv k l
def GU {α:Type} : ∀ {k:Nat} {l m:List α},Lv k l=some m->l.drop k=m
 | 0,l,m,h=>by simpa [Lv] using h
 | _+1,[],m,h=>by simpa [Lv] using h
 | k+1,_::l,m,h=>by simpa using GU (k:=k) (l:=l) h
def Je {p:Prop} [Decidable p] (h:p):(decide p==true)=true:=by simp [h]
def M5 {p:Prop} [Decidable p] (h : ¬p):(decide p==true)=false:=by simp [h]
def FF {p:Prop} [Decidable p] (h:p):(decide p==false)=false:=by simp [h]
def IL {p:Prop} [Decidable p] (h : ¬p):(decide p==false)=true:=by simp [h]
def CI {b:Bool} (h:b=true):(b==true)=true:=by simp [h]
def D7 {b:Bool} (h:b=false):(b==true)=false:=by simp [h]
def Kx {b:Bool} (h:b=true):(b==false)=false:=by simp [h]
def Ky {b:Bool} (h:b=false):(b==false)=true:=by simp [h]
def TW (P:Program) (n:Nat) (ops:Array Oper) (Q:Exit->Act->wD->Prop) (S:wD->Prop) (K:Nat) (s:Sc) (l:Sl) (w:wD):Prop:= ∀a,Env n l a->HT P ops Q S K s a w
section draws
variable {P:Program} {n:Nat} {ops:Array Oper} {Q:Exit->Act->wD->Prop} {S:wD->Prop} {K:Nat} {l:Sl} {w:wD}
 {d i:Nat} {ty:TypeId} {pos:String} {after:Array Edge} {r x:Sc}
def AC {X:Nat} {f:List Oper} (S:wD->Prop) (K:Nat) (s:Sc) (Y:P.follows .mixedOrders=true) (F:(Region.noSelect f.toArray&&(cY f.length K||Ls f.toArray K)&&Sc.ok f.toArray K true s f.length (Array.replicate f.length false))=true) (Z:DV Q)
 (h : ∀L,Ext w L->L.heap=w.heap->S L/\TW P n f.toArray Q S K s l L):CW P n (.region X f.toArray true) Q l w:=by
 unfold CW;intro a ha;simp only [bB] at F;obtain ⟨h1,h2⟩:=h w.drew (Ext.refl w).drew rfl;have N : ∀i,i<K->Gb f.toArray K i:=by
  by_cases V:K<f.toArray.size
  . have E:=F.1.2;simp only [Bool.or_eq_true] at E;rcases E with E|E
    . have:=cE E;simp at V;omega
    . exact Gc E V
  . intro i hi M j o _ hj ho _;have aa:j<f.toArray.size:=(Array.getElem?_eq_some_iff.1 ho).1;omega
 have O:DC f.toArray (Array.replicate f.length false):=fun k o _ E=>by
  exfalso;rcases bQ k f.length with U|U
  . simp [U] at E
  . simp [cJ,U] at E
 refine wp_region_any Y (Lu (S:=S) (K:=K) _ _ _ _ ?_);have:=(HT.any F.1.1 N Z s f.length (Array.replicate f.length false) a w.drew O h1 (h2 a ha)).1 F.2;simpa using this
def A7:TW P n ops Q S K .none l w:=fun _ _=>trivial
def AF {f:List Oper} (E:Lv K ops.toList=some f) (h:LW P n ops Q f l w):TW P n ops Q S K .tail l w:=by
 unfold LW at h;intro a F;show wpList P ops Q (ops.toList.drop K) a w;rw [GU E];exact h a F
def WA {op:Op} {v:Value} (E:ops.toList[i]? = some ⟨some d,op,ty,pos,after,none⟩) (f:BA P n l S op ty v) (F:bM d n=true) (k:TW P n ops Q S K r ((d,v)::l) w) :
 TW P n ops Q S K (.pure i r) l w:=by
 unfold BA at f;exact fun a h=>⟨_,v,E,bC ⟨rfl,fun w L=>f a w _ _ _ _ h L⟩,k _ (h.put F v)⟩
def Zi {op:Op} {v:Value} {j dj:Nat} {f b:Bool} (F:ops.toList[i]? = some ⟨some d,op,ty,pos,after,some (j,f)⟩) (L:BP ops j=some dj) (M:bM dj n=true) (N:Ck l dj=some (.bool b)) (O:(b==f)=true)
 (E:BA P n l S op ty v) (U:bM d n=true) (k:TW P n ops Q S K r ((d,v)::l) w):TW P n ops Q S K (.pure i r) l w:=by
 unfold BA at E;exact fun a h=>⟨_,v,F,bC ⟨by rw [Is h rfl L M N,O],fun w V=>E a w _ _ _ _ h V⟩,k _ (h.put U v)⟩
def Gd {op:Op} {j dj:Nat} {f b:Bool} (E:ops.toList[i]? = some ⟨some d,op,ty,pos,after,some (j,f)⟩) (F:BP ops j=some dj) (L:bM dj n=true) (M:Ck l dj=some (.bool b)) (N:(b==f)=false)
 (O:bM d n=true) (k:TW P n ops Q S K r ((d,undef)::l) w):TW P n ops Q S K (.pure i r) l w:=fun a h=>
 ⟨_,undef,E,bF ⟨by rw [Is h rfl F L M,N],rfl⟩,k _ (h.put O undef)⟩
def A1 {op:Op} {E:Option Value->wD->Prop} (O:ops.toList[i]? = some ⟨some d,op,ty,pos,after,none⟩) (M:Cr P n l op ty w E) (U:bM d n=true)
 (k : ∀v f,E (some v) f->S f/\TW P n ops Q S K x ((d,v)::l) f) (V : ∀f,¬E none f) (X:TW P n ops Q S K r l w):TW P n ops Q S K (.fork i x r) l w:=fun a F=>by
 unfold Cr at M;refine ⟨?_,X a F⟩;have L:ops[i]? = some ⟨some d,op,ty,pos,after,none⟩:=by simpa using O
 unfold wpOp;rw [L];simp only;rw [AU (B0 rfl)];left;exact M a _ _ _ _ _ _ F (fun v f N=>⟨(k v f N).1,(k v f N).2 _ (F.put U v)⟩) (fun f h=>absurd h (V f))
def Ux {op:Op} {L:Option Value->wD->Prop} (O:ops.toList[i]? = some ⟨none,op,ty,pos,after,none⟩) (M:Cr P n l op ty w L)
 (k : ∀v f,L v f->S f/\TW P n ops Q S K x l f) (U:TW P n ops Q S K r l w):TW P n ops Q S K (.fork i x r) l w:=fun a E=>by
 unfold Cr at M;refine ⟨?_,U a E⟩;have F:ops[i]? = some ⟨none,op,ty,pos,after,none⟩:=by simpa using O
 unfold wpOp;rw [F];simp only;rw [AU (B0 rfl)];left;exact M a _ _ _ _ _ _ E (fun v f N=>⟨(k _ f N).1,(k _ f N).2 _ E⟩) (fun f h=>⟨(k _ f h).1,(k _ f h).2 _ E⟩)
end draws
def E5 {P:Program} {n:Nat} {l:Sl} {w:wD} {fn:Func} {R:Ending->wD->Prop} {tab:Tab} {t ty sz b:Nat} {s:Sk} {vs:lV} (h:fn.results = #[.cell t ty]) (T:TabOk P tab) (E:AD tab ty=some (s,sz)) (L:s.agg=true) (M:Ck l t=some (.pointer (some ⟨b,0,none⟩))) (N:Blk w b vs) (O:vs.length=sz)
 (U:R (.returned (.agg vs.toArray)) w):QW n (bodyPost P fn R) .ret l w:=by
 unfold QW;intro a F;refine ⟨F.defers,.agg vs.toArray,?_,U⟩;have e:(loadVar ty ⟨b,0,none⟩).run P w = .ok (.agg vs.toArray) w:=by
  simp only [bL,bW,bG,loadVar,Eo (T _ _ _ E),L,if_true,C2 (T _ _ _ E)];rw [<-O,Ex N.row]
 have f:=F.has t _ M;simp only [Array.getD_eq_getD_getElem?] at f;simp [results,h,f,e,asAddr]
attribute [irreducible] TW
section
variable {P:Program} {n:Nat} {l:Sl} {S:wD->Prop} {tab:Tab} {ty:TypeId} {x y:Operand} {t t' sz:Nat}
def AR {f off h E:Nat} {L:List (Nat×Nat)} {s:Sk} {vs:lV} {v:Value} (T:TabOk P tab) (M:AD tab t=some (.struct L,sz)) (N:L[f]? = some (off,h)) (F:AD tab h=some (s,E)) (O:s.agg=false)
 (U:ev l x=some (.agg vs.toArray)) (V:vs[off]? = some v):BA P n l S (.field t x f) ty v:=by
 unfold BA;intro a w X pos after g Y _;obtain ⟨gs,h1,-,Z⟩:=(T _ _ _ M).under;obtain ⟨fd,h3,h4,h5,-⟩:=Z f off h N;have e:(Instr.field t (.agg vs.toArray) f).run P w = .ok v w:=by
  simp only [Instr.field,bL,AK h1,bG,h3,asAgg,bW,part,h5,h4,Eo (T _ _ _ F),O];simp [V]
 simp [execOp,Y.ev U,e]
def Gl {i:Operand} {e f b o len cap:Nat} {k:IntKind} {j:Int} {sE:Sk} {q:oA} (T:TabOk P tab) (h:AD tab t=some (.slice e,sz)) (E:AD tab e=some (sE,f))
 (F:ev l x=some (.slice q len cap)) (L:q=some ⟨b,o,none⟩) (M:ev l i=some (.int k j)) (N:0<=j) (h1:j<len):BA P n l S (.indexAddr t x i) ty (.pointer (some ⟨b,o+j.toNat*f,none⟩)):=by
 subst L;exact Ay T h E F M N h1
def Gm (T:TabOk P tab) (f:AD tab t=some (.iface,sz)) (E:ev l x=some .nilIface):BA P n l S (.binOp .neq t x (.const .nilIface) t') ty (.bool false):=by
 unfold BA;intro a w F pos after g L _;obtain ⟨V,M⟩:=(T _ _ _ f).under;have e:(Op.equal t .nilIface .nilIface).run P w = .ok true w:=by
  refine (fun h=>h (Op.maxDepth-1):(∀d,(Op.equalIn (d+1) t .nilIface .nilIface).run P w = .ok true w)->_) (fun d=>?_);unfold Op.equalIn;simp only [bL,AK M,Result.andThen_ok,bW]
 have N:(eqGuard .neq t x (.const .nilIface) .nilIface .nilIface).run P w = .ok () w:=by
  unfold eqGuard;simp
 have O:(binOp .neq t .nilIface .nilIface).run P w = .ok (.bool false) w:=by
  unfold binOp;simp only [bL,e,Result.andThen_ok,bW,Bool.not_true]
 have U:a.eval (.const .nilIface) = .nilIface:=rfl;simp only [execOp,L.ev E,U,bL,N,O,Result.andThen_ok,bW]
def OW {f:TypeId} {E:Value} (T:TabOk P tab) (F:AD tab t=some (.iface,sz)) (L:ev l x=some (.iface f E)):BA P n l S (.binOp .neq t x (.const .nilIface) t') ty (.bool true):=by
 unfold BA;intro a w M pos after g N _;obtain ⟨Y,O⟩:=(T _ _ _ F).under;have e:(Op.equal t (.iface f E) .nilIface).run P w = .ok false w:=by
  refine (fun h=>h (Op.maxDepth-1):(∀d,(Op.equalIn (d+1) t (.iface f E) .nilIface).run P w = .ok false w)->_) (fun d=>?_);unfold Op.equalIn;simp only [bL,AK O,Result.andThen_ok,bW]
 have U:(eqGuard .neq t x (.const .nilIface) (.iface f E) .nilIface).run P w = .ok () w:=by
  unfold eqGuard;simp
 have V:(binOp .neq t (.iface f E) .nilIface).run P w = .ok (.bool true) w:=by
  unfold binOp;simp only [bL,e,Result.andThen_ok,bW,Bool.not_false]
 have X:a.eval (.const .nilIface) = .nilIface:=rfl;simp only [execOp,N.ev L,X,bL,U,V,Result.andThen_ok,bW]
def Dp {h:List (Nat×Nat)} {xs:List (Nat×Operand)} {L:List (Nat×Value)} {E:List (Nat×Nat×lV)} {zt:Ey} {F:lV} (f:lV) (T:TabOk P tab) (Z:Cy P zt)
 (M:AD tab t=some (.struct h,sz)) (N:CT zt t=some F) (O:IW tab h l xs=some (L,E)) (U:IK E F=some f):BA P n l S (.build t xs.toArray) ty (.agg f.toArray):=SS T Z M N O U
def Cc {b o:Nat} {s:Sk} {vs:lV} (us:lV) (T:TabOk P tab) (f:AD tab t=some (s,sz)) (h:s.agg=true) (E:ev l x=some (.pointer (some ⟨b,o,none⟩)))
 (F : ∀w,S w->Blk w b vs) (L:cY (o+sz) vs.length=true) (M:(vs.drop o).take sz=us):BA P n l S (.load t x) ty (.agg us.toArray):=by subst M;exact C5 T f h E F L
def Br {b o i:Nat} {s:Sk} {vs:lV} (us:lV) (T:TabOk P tab) (f:AD tab t=some (s,sz)) (h:s.agg=true) (E:ev l x=some (.pointer (some ⟨b,o+i,none⟩)))
 (F : ∀w,S w->Row w ⟨b,o,none⟩ vs) (L:cY (i+sz) vs.length=true) (M:(vs.drop i).take sz=us):BA P n l S (.load t x) ty (.agg us.toArray):=by subst M;exact Ga T f h E F L
def CO {w:wD} {fn:Func} {R:Ending->wD->Prop} {N f b u s:Nat} {O:Sk} {vs:lV} {v2 v3:Value} (h:fn.results = #[.cell N f,.tmp u,.tmp s]) (T:TabOk P tab) (U:AD tab f=some (O,sz)) (V:O.agg=true) (X:Ck l N=some (.pointer (some ⟨b,0,none⟩))) (Y:Blk w b vs) (Z:vs.length=sz)
 (hu:Ck l u=some v2) (hz:Ck l s=some v3) (hR:R (.returned (.tuple #[.agg vs.toArray,v2,v3])) w):QW n (bodyPost P fn R) .ret l w:=by
 unfold QW;intro a M;refine ⟨M.defers,.tuple #[.agg vs.toArray,v2,v3],?_,hR⟩;have e:(loadVar f ⟨b,0,none⟩).run P w = .ok (.agg vs.toArray) w:=by
  simp only [bL,bW,bG,loadVar,Eo (T _ _ _ U),V,if_true,C2 (T _ _ _ U)];rw [<-Z,Ex Y.row]
 have E:=M.has N _ X;have F:=M.has u _ hu;have L:=M.has s _ hz;simp only [Array.getD_eq_getD_getElem?] at E F L;simp [results,h,E,F,L,e,asAddr]
def NY {a:Act} (E:Env n l a) {ops:Array Oper} {j dj:Nat} {f:Bool} {o:Oper} (F:o.guard=some (j,f)) (L:BP ops j=some dj) (M:bM dj n=true) (N:Ck l dj=some undef) :
 Region.wanted o (yielded ops a.tmps)=false:=by
 have h1:=E.has dj _ N;have h:dj<a.tmps.size:=by rw [E.size];exact cE M
 have O:a.tmps[dj]? = some undef:=by
  rw [Array.getD_eq_getD_getElem?,Array.getElem?_eq_getElem h] at h1;rw [Array.getElem?_eq_getElem h];simpa using h1
 have U:(ops[j]?).bind (·.dst)=some dj:=by simpa [BP] using L
 unfold Region.wanted yielded;simp only [F,U,Option.bind_some,O];cases f<;>rfl
section rules
variable {w:wD} {ops:Array Oper} {Q:Exit->Act->wD->Prop} {rest:List Oper} {d:Nat} {pos:String} {after:Array Edge}
def F1 {v:Value} (vs:lV) (h:ev l x=some v) (E:v.cells=vs.toArray) (F:bM d n=true)
 (k : ∀b f,New w f b vs->LW P n ops Q rest ((d,.pointer (some ⟨b,0,none⟩))::l) f):LW P n ops Q (⟨some d,.box t x,ty,pos,after,none⟩::rest) l w:=IV h E F k
def Gn {zt:Ey} (vs:lV) (Z:Cy P zt) (h:CT zt t=some vs) (E:bM d n=true)
 (k : ∀b f,New w f b vs->LW P n ops Q rest ((d,.pointer (some ⟨b,0,none⟩))::l) f):LW P n ops Q (⟨some d,.alloc t,ty,pos,after,none⟩::rest) l w:=Gj Z h E k
def M6 {b o:Nat} {s:Sk} {v:Value} {vs:lV} (us f:lV) (T:TabOk P tab) (E:AD tab t=some (s,sz)) (F:ev l x=some (.pointer (some ⟨b,o,none⟩))) (L:ev l y=some v)
 (M:v.cells=us.toArray) (N:us.length=sz) (h1:us.all Value.one=true) (O:Blk w b vs) (U:cY (o+us.length) vs.length=true) (V:Bi vs o us=f)
 (k : ∀h,Put w h b f->LW P n ops Q rest l h):LW P n ops Q (⟨none,.store t x y,ty,pos,after,none⟩::rest) l w:=by
 subst V;exact I9 T E F L M N h1 O U k
def FG {w0:wD} {b:Nat} {s:Sk} {v:Value} {vs:lV} (us:lV) (T:TabOk P tab) (h:AD tab t=some (s,sz)) (E:ev l x=some (.pointer (some ⟨b,0,none⟩))) (F:ev l y=some v)
 (L:v.cells=us.toArray) (M:us.length=sz) (h1:us.all Value.one=true) (N:New w0 w b vs) (O:us.length=vs.length)
 (k : ∀f,New w0 f b us->LW P n ops Q rest l f):LW P n ops Q (⟨none,.store t x y,ty,pos,after,none⟩::rest) l w:=It T h E F L M h1 N O k
def Es {e f len:Nat} {sE:Sk} {zt:Ey} {F:lV} {E:List (Nat×Operand)} {vs:lV} (cs:lV) (T:TabOk P tab) (Z:Cy P zt) (L:AD tab t=some (.slice e,sz)) (M:AD tab e=some (sE,f))
 (N:CT zt e=some F) (O:GQ l 0 E=some vs) (U:vs.length=len) (V:vs.all (fun v=>cZ v.cells.size f)=true) (X:cY (len*f) 10000=true) (h:bM 0 (len*f)=true) (Y:(vs.map (·.cells.toList)).flatten=cs) :
 Cr P n l (.buildSlice t len E.toArray) ty w (NV w len cs e):=by subst Y;exact CN T Z L M N O U V X h
def Bm {b o:Nat} {s:Sk} {vs:lV} (us:lV) (T:TabOk P tab) (f:AD tab t=some (s,sz)) (h:s.agg=true) (E:ev l x=some (.pointer (some ⟨b,o,none⟩)))
 (F:Blk w b vs) (L:cY (o+sz) vs.length=true) (M:(vs.drop o).take sz=us) (N:bM d n=true) (k:LW P n ops Q rest ((d,.agg us.toArray)::l) w):LW P n ops Q (⟨some d,.load t x,ty,pos,after,none⟩::rest) l w:=by
 subst M;exact QR T f h E F L N k
def B6 {b o i:Nat} {s:Sk} {vs:lV} (us:lV) (T:TabOk P tab) (f:AD tab t=some (s,sz)) (h:s.agg=true) (E:ev l x=some (.pointer (some ⟨b,o+i,none⟩)))
 (F:Row w ⟨b,o,none⟩ vs) (L:cY (i+sz) vs.length=true) (M:(vs.drop i).take sz=us) (N:bM d n=true) (k:LW P n ops Q rest ((d,.agg us.toArray)::l) w):LW P n ops Q (⟨some d,.load t x,ty,pos,after,none⟩::rest) l w:=by
 subst M;exact QS T f h E F L N k
def Jf {K i b o:Nat} {r F:Sc} {s:Sk} {v:Value} {vs:lV} (us f:lV) (L:ops.toList[i]? = some ⟨none,.store t x y,ty,pos,after,none⟩) (T:TabOk P tab) (M:AD tab t=some (s,sz)) (N:ev l x=some (.pointer (some ⟨b,o,none⟩))) (O:ev l y=some v)
 (U:v.cells=us.toArray) (V:us.length=sz) (h1:us.all Value.one=true) (X:Blk w b vs) (Y:cY (o+us.length) vs.length=true) (Z:Bi vs o us=f)
 (k : ∀E,Put w E b f->S E/\TW P n ops Q S K F l E) (kr:TW P n ops Q S K r l w):TW P n ops Q S K (.fork i F r) l w:=by
 subst Z;exact Ux L (GO T M N O U V h1 X Y) (fun v E h=>by cases v with|none=>exact k E h|some _=>exact h.elim) kr
def Fe {op:Op} {j dj:Nat} {f:Bool} (E:BP ops j=some dj) (F:bM dj n=true) (L:Ck l dj=some undef) (M:bM d n=true)
 (k:LW P n ops Q rest ((d,undef)::l) w):LW P n ops Q (⟨some d,op,ty,pos,after,some (j,f)⟩::rest) l w:=by
 unfold LW at k ⊢;intro a h;unfold wpList;rw [NY h rfl E F L];exact k _ (h.put M undef)
end rules
def IM {L e h E r:Nat} {k:lB} {z v:Value} {f:List (lB×Value)} (T:TabOk P tab) (M:AD tab t=some (.map L e,h)) (F:AD tab L=some (.str,E)) (N:((P.info? e).bind (·.zero))=some z)
 (O:ev l x=some (.map (some r))) (U:ev l y=some (str k)) (V : ∀w,S w->MapIs w r f) (X:Jc f k=some v):BA P n l S (.lookup t x y true) ty (.tuple #[v,.bool true]):=by
 have:=Lp (P:=P) (n:=n) (ty:=ty) (c:=true) T M F N O U V;rw [X] at this;exact this
def MK {L e h E r:Nat} {k:lB} {z:Value} {f:List (lB×Value)} (T:TabOk P tab) (M:AD tab t=some (.map L e,h)) (F:AD tab L=some (.str,E)) (N:((P.info? e).bind (·.zero))=some z)
 (O:ev l x=some (.map (some r))) (U:ev l y=some (str k)) (V : ∀w,S w->MapIs w r f) (X:Jc f k=none):BA P n l S (.lookup t x y true) ty (.tuple #[z,.bool false]):=by
 have:=Lp (P:=P) (n:=n) (ty:=ty) (c:=true) T M F N O U V;rw [X] at this;exact this
def WB {a b m:Int} (h:ev l x=some (.int .i64 a)) (E:ev l y=some (.int .i64 b)) (F:max a b=m):BA P n l S (.call ⟨.builtin .max,#[x,y],#[t,t']⟩) ty (.int .i64 m):=by
 unfold BA;intro c w L pos after g f _;have e:(if b>a then b else a)=m:=by rw [<-F];split<;>omega
 simp [execOp,resolve,invoke,builtin,Builtin.max_,Builtin.max2,f.ev h,f.ev E,e]
def FH {k:IntKind} {i:Nat} {a:lB} (T:TabOk P tab) (f:AD tab t=some (.str,sz)) (h:ev l x=some (str a)) (E:ev l y=some (.int k (i:Int))) (h1:i<=a.length):BA P n l S (.slice t x (some y) none none) ty (str (a.drop i)):=
 SX T f h E (by omega) (by omega)
def QT {z:Operand} {k f:IntKind} {i m:Nat} {a:lB} (T:TabOk P tab) (E:AD tab t=some (.str,sz)) (F:ev l x=some (str a)) (L:ev l y=some (.int k (i:Int))) (M:ev l z=some (.int f ((i:Int)+(m:Int)))) (N:i+m<=a.length):BA P n l S (.slice t x (some y) (some z) none) ty (str ((a.drop i).take m)):=by
 have h:=SY (P:=P) (n:=n) (l:=l) (S:=S) (ty:=ty) T E F L M (by omega) (by omega) (by omega);have e:(a.take ((i:Int)+(m:Int)).toNat).drop (i:Int).toNat=(a.drop i).take m:=by
  rw [show ((i:Int)+(m:Int)).toNat=i+m by omega,show (i:Int).toNat=i by omega,List.drop_take];congr 1;omega
 rw [e] at h;exact h
def NZ {k:IntKind} {a b c:Int} (h:ev l x=some (.int k a)) (E:ev l y=some (.int k b)) (F:b≠0) (L:k.wrap (a.tdiv b)=c):BA P n l S (.binOp .quo t x y t') ty (.int k c):=by
 unfold BA;intro d w M pos after g f _;subst L;simp [execOp,f.ev h,f.ev E,Bv,binOp,Op.intDiv,F]
def WC {k:IntKind} {a b c:Int} (h:ev l x=some (.int k a)) (E:ev l y=some (.int k b)) (F:b≠0) (L:a.tmod b=c):BA P n l S (.binOp .rem t x y t') ty (.int k c):=by
 unfold BA;intro d w M pos after g f _;subst L;simp [execOp,f.ev h,f.ev E,Bv,binOp,Op.intDiv,F]
end
section
variable {P:Program} {n d:Nat} {ops:Array Oper} {Q:Exit->Act->wD->Prop} {rest:List Oper} {l:Sl} {w:wD} {ty:TypeId} {pos:String} {after:Array Edge} {S:wD->Prop}
def cN {E:Nat} {f:List Oper} {y:Code} (h:LW P n f.toArray (Exit.then (y.wp P Q) Q) f l w):LW P n ops (Exit.then ((Code.seq (.region E f.toArray false) y).wp P Q) Q) [] l w:=Ah (Ai (Aj (Ad h)))
def cT {y:Code} (h:CW P n y Q l w):LW P n ops (Exit.then (y.wp P Q) Q) [] l w:=Ah (Ai h)
def cS {E:Nat} {f:List Oper} {y:Code} (h:LW P n f.toArray (Exit.then (y.wp P Q) Q) f l w):CW P n (.seq (.region E f.toArray false) y) Q l w:=Aj (Ad h)
def cR {f:FuncId} {xs:List Operand} {F:Array TypeId} {vs:lV} {R:Ending->wD->Prop} (M:Fl P f=true) (L:evs l xs=some vs) (C:Calls P f vs.toArray w R) (N : ∀e E,R e E -> ∃v,e = .returned v) (O:bM d n=true)
 (k : ∀v E,Zc R (some v) E->LW P n ops Q rest ((d,v)::l) E):LW P n ops Q (⟨some d,.call ⟨.value (.func f),xs.toArray,F⟩,ty,pos,after,none⟩::rest) l w:=
 Au (Bb M L C N) O k (fun _ h=>h)
def cC {f:FuncId} {xs:List Operand} {E:Array TypeId} {vs:lV} {v0:Value} {R:wD->Prop} (F:evs l xs=some vs) (C:Calls P f vs.toArray w (fun e w'=>e = .returned v0/\R w'))
 (k : ∀v L,Zc (fun e w'=>e = .returned v0/\R w') (some v) L->LW P n ops Q rest ((d,v)::l) L) (M:Fl P f=true:=by kernel_rfl) (N:bM d n=true:=by exact rfl):LW P n ops Q (⟨some d,.call ⟨.value (.func f),xs.toArray,E⟩,ty,pos,after,none⟩::rest) l w:=
 Au (Bb M F C (fun _ _ h=>⟨_,h.1⟩)) N k (fun _ h=>h)
def Mv {x:Operand} {v:Value} (h:ev l x=some v:=by exact rfl):BA P n l S (.move x) ty v:=BM h
def Pa {x:Operand} {v:Value} (h:ev l x=some v:=by exact rfl):BA P n l S (.assign x) ty v:=ES h
def Pn {x:Operand} {a:Addr} (f:ev l x=some (.pointer (some a)):=by exact rfl):BA P n l S (.nilCheck x) ty (.pointer (some a)):=Ez f
def Pf {x:Operand} {s f b o off E sz:Nat} {h:List (Nat×Nat)} (F:ev l x=some (.pointer (some ⟨b,o,none⟩)):=by exact rfl) (L:AD tab s=some (.struct h,sz):=by exact rfl) (M:h[f]? = some (off,E):=by exact rfl) :
 BA prog n l S (.fieldAddr s x f) ty (.pointer (some ⟨b,o+off,none⟩)):=AS Ac F L M
def Pg {x:Operand} {s f b o E sz:Nat} {h:List (Nat×Nat)} (F:ev l x=some (.pointer (some ⟨b,o,none⟩)):=by exact rfl) (L:AD tab s=some (.struct h,sz):=by exact rfl) (M:h[f]? = some (0,E):=by exact rfl) :
 BA prog n l S (.fieldAddr s x f) ty (.pointer (some ⟨b,o,none⟩)):=DN Ac F L M
def Pi {x i:Operand} {t e sz f b o len cap:Nat} {k:IntKind} {j:Int} {sE:Sk} (h:AD tab t=some (.slice e,sz):=by exact rfl) (E:AD tab e=some (sE,f):=by exact rfl)
 (F:ev l x=some (.slice (some ⟨b,o,none⟩) len cap):=by exact rfl) (L:ev l i=some (.int k j):=by exact rfl) (M:0<=j:=by omega) (h1:j<len:=by omega):BA prog n l S (.indexAddr t x i) ty (.pointer (some ⟨b,o+j.toNat*f,none⟩)):=Ay Ac h E F L M h1
def Pz {x:Operand} {t e sz:Nat} {p:oA} {len cap:Nat} (f:AD tab t=some (.slice e,sz):=by exact rfl) (h:ev l x=some (.slice p len cap):=by exact rfl):BA prog n l S (.call ⟨.builtin .len,#[x],#[t]⟩) ty (.int .i64 len):=C3 Ac f h
def Py {x:Operand} {t sz:Nat} {a:lB} (f:AD tab t=some (.str,sz):=by exact rfl) (h:ev l x=some (str a):=by exact rfl):BA prog n l S (.call ⟨.builtin .len,#[x],#[t]⟩) ty (.int .i64 a.length):=ST Ac f h
def Px {x:Operand} {i:Nat} {v:Value} {vs:lV} (f:ev l x=some (.tuple vs.toArray):=by exact rfl) (h:vs[i]? = some v:=by exact rfl):BA P n l S (.extract x i) ty v:=OR f h
def Pt {x:Operand} {q:Bool} {t:TypeId} (f:ev l x=some (.bool q):=by exact rfl):BA P n l S (.unOp .not t x) ty (.bool !q):=Wy f
section
variable {x y:Operand} {k:IntKind} {a b:Int} {t t':TypeId}
def V1 (f:ev l x=some (.int k a):=by exact rfl) (h:ev l y=some (.int k b):=by exact rfl):BA P n l S (.binOp .eql t x y t') ty (.bool (decide (a=b))):=Wr f h
def V2 (f:ev l x=some (.int k a):=by exact rfl) (h:ev l y=some (.int k b):=by exact rfl):BA P n l S (.binOp .neq t x y t') ty (.bool (decide (a≠b))):=Ws f h
def V3 (f:ev l x=some (.int k a):=by exact rfl) (h:ev l y=some (.int k b):=by exact rfl):BA P n l S (.binOp .lss t x y t') ty (.bool (decide (a<b))):=Wt f h
def V4 (f:ev l x=some (.int k a):=by exact rfl) (h:ev l y=some (.int k b):=by exact rfl):BA P n l S (.binOp .leq t x y t') ty (.bool (decide (a<=b))):=Wu f h
def V5 (f:ev l x=some (.int k a):=by exact rfl) (h:ev l y=some (.int k b):=by exact rfl):BA P n l S (.binOp .gtr t x y t') ty (.bool (decide (b<a))):=Wv f h
def V6 (f:ev l x=some (.int k a):=by exact rfl) (h:ev l y=some (.int k b):=by exact rfl):BA P n l S (.binOp .geq t x y t') ty (.bool (decide (b<=a))):=Ww f h
def V7 (f:ev l x=some (.int .i64 a):=by exact rfl) (E:ev l y=some (.int .i64 b):=by exact rfl) (h : -9223372036854775808<=a+b/\a+b<=9223372036854775807:=by omega):BA P n l S (.binOp .add t x y t') ty (.int .i64 (a+b)):=NT f E (bT _ h)
end
section
variable {x y:Operand} {a b:lB} {t t':TypeId}
def V8 (f:ev l x=some (str a):=by exact rfl) (h:ev l y=some (str b):=by exact rfl):BA P n l S (.binOp .eql t x y t') ty (.bool (decide (a=b))):=Us f h
def V9 (f:ev l x=some (str a):=by exact rfl) (h:ev l y=some (str b):=by exact rfl):BA P n l S (.binOp .neq t x y t') ty (.bool (decide (a≠b))):=Ut f h
end
section
variable {c x y:Operand} {p:Prop} [Decidable p] {u:Value}
def Qy (f:p) (h:ev l c=some (.bool (decide p)):=by exact rfl) (E:ev l x=some u:=by exact rfl):BA P n l S (.pick c x y) ty u:=Ft h E f
def Qn (f : ¬p) (h:ev l c=some (.bool (decide p)):=by exact rfl) (E:ev l y=some u:=by exact rfl):BA P n l S (.pick c x y) ty u:=F0 h E f
def SZ (f:ev l c=some (.bool (decide p)):=by exact rfl) (h:ev l x=some u:=by exact rfl) (E:p:=by assumption):BA P n l S (.pick c x y) ty u:=Ft f h E
def S0 (f:ev l c=some (.bool (decide p)):=by exact rfl) (h:ev l y=some u:=by exact rfl) (E : ¬p:=by assumption):BA P n l S (.pick c x y) ty u:=F0 f h E
def WD (f:ev l c=some (.bool (decide p)):=by exact rfl) (h:ev l x=some u:=by exact rfl) (E:p:=by decide):BA P n l S (.pick c x y) ty u:=Ft f h E
def Wp (f:ev l c=some (.bool (decide p)):=by exact rfl) (h:ev l y=some u:=by exact rfl) (E : ¬p:=by decide):BA P n l S (.pick c x y) ty u:=F0 f h E
def Uy (f:ev l c=some (.bool (decide p)):=by exact rfl) (h:ev l x=some u:=by exact rfl) (E:p:=by omega):BA P n l S (.pick c x y) ty u:=Ft f h E
def OQ (f:ev l c=some (.bool (decide p)):=by exact rfl) (h:ev l y=some u:=by exact rfl) (E : ¬p:=by omega):BA P n l S (.pick c x y) ty u:=F0 f h E
end
def Pl {x:Operand} {t sz b o:Nat} {s:Sk} {vs:lV} {v:Value} (f:Blk w b vs) (h:AD tab t=some (s,sz):=by exact rfl) (E:s.agg=false:=by exact rfl) (F:ev l x=some (.pointer (some ⟨b,o,none⟩)):=by exact rfl)
 (L:vs[o]? = some v:=by exact rfl):BA prog n l (fun x=>x=w) (.load t x) ty v:=Ax Ac h E F (fun N M=>by subst M;exact f.cell L)
def Pw {x:Operand} {t sz b o i:Nat} {s:Sk} {vs:lV} {v:Value} (f:Row w ⟨b,o,none⟩ vs) (h:AD tab t=some (s,sz):=by exact rfl) (E:s.agg=false:=by exact rfl) (F:ev l x=some (.pointer (some ⟨b,o+i,none⟩)):=by exact rfl)
 (L:vs[i]? = some v:=by exact rfl):BA prog n l (fun x=>x=w) (.load t x) ty v:=Ax Ac h E F (fun N M=>by subst M;exact f.at L)
def Zj {x:Operand} {t sz b o:Nat} {s:Sk} {vs:lV} {v:Value} (f:Row w ⟨b,o,none⟩ vs) (h:AD tab t=some (s,sz):=by exact rfl) (E:s.agg=false:=by exact rfl) (F:ev l x=some (.pointer (some ⟨b,o,none⟩)):=by exact rfl)
 (L:vs[0]? = some v:=by exact rfl):BA prog n l (fun x=>x=w) (.load t x) ty v:=Ax Ac h E F (fun N M=>by subst M;exact f.at0 L)
def Uz {x:Operand} {t sz b o:Nat} {s:Sk} {vs:lV} (f:Row w ⟨b,o,none⟩ vs) (h:AD tab t=some (s,sz):=by exact rfl) (E:s.agg=true:=by exact rfl) (F:ev l x=some (.pointer (some ⟨b,o,none⟩)):=by exact rfl)
 (L:vs.length=sz:=by exact rfl):BA prog n l (fun x=>x=w) (.load t x) ty (.agg vs.toArray):=A6 Ac h E F (fun N M=>by subst M;exact f) L
section
variable {x:Operand} {t sz b o i:Nat} {s:Sk} {vs:lV} {v:Value} {w0:wD}
def Db (h:Blk w0 b vs) (E:AD tab t=some (s,sz):=by exact rfl) (F:s.agg=false:=by exact rfl) (L:ev l x=some (.pointer (some ⟨b,o,none⟩)):=by exact rfl) (M:vs[o]? = some v:=by exact rfl) :
 BA prog n l (fun f=>Ext w0 f) (.load t x) ty v:=Ax Ac E F L (fun f N=>Blk.cell (Blk.ext h N) M)
def Dr (h:Row w0 ⟨b,o,none⟩ vs) (E:AD tab t=some (s,sz):=by exact rfl) (F:s.agg=false:=by exact rfl) (L:ev l x=some (.pointer (some ⟨b,o+i,none⟩)):=by exact rfl) (M:vs[i]? = some v:=by exact rfl) :
 BA prog n l (fun f=>Ext w0 f) (.load t x) ty v:=Ax Ac E F L (fun f N=>Row.at (Row.ext h N) M)
end
def C1 {op:Op} {v:Value} (f:BA P n l (fun x=>x=w) op ty v) (k:LW P n ops Q rest ((d,v)::l) w) (h:bM d n=true:=by exact rfl):LW P n ops Q (⟨some d,op,ty,pos,after,none⟩::rest) l w:=A0 f h k
def cM {x:Operand} {v:Value} (h:ev l x=some v) (k:LW P n ops Q rest ((d,v)::l) w) (f:bM d n=true:=by exact rfl):LW P n ops Q (⟨some d,.move x,ty,pos,after,none⟩::rest) l w:=A0 (BM h) f k
def cA {x:Operand} {v:Value} (h:ev l x=some v) (k:LW P n ops Q rest ((d,v)::l) w) (f:bM d n=true:=by exact rfl):LW P n ops Q (⟨some d,.assign x,ty,pos,after,none⟩::rest) l w:=A0 (ES h) f k
def Tq {K i:Nat} {r:Sc} {op:Op} {v:Value} (f:ops.toList[i]? = some ⟨some d,op,ty,pos,after,none⟩) (h:BA P n l S op ty v) (k:TW P n ops Q S K r ((d,v)::l) w) (E:bM d n=true:=by exact rfl):TW P n ops Q S K (.pure i r) l w:=WA f h E k
section
variable {c:Operand} {x y:Code} {p:Prop} [Decidable p]
def N0 (h:CW P n y Q l w) (f:ev l c=some (.bool (decide p)):=by exact rfl) (E : ¬p:=by assumption):CW P n (.cond c x y) Q l w:=Fa f E h
def OX (h:CW P n x Q l w) (f:ev l c=some (.bool (decide p)):=by exact rfl) (E:p:=by assumption):CW P n (.cond c x y) Q l w:=QQ f E h
def Hj (h:CW P n y Q l w) (f:ev l c=some (.bool (decide p)):=by exact rfl) (E : ¬p:=by decide):CW P n (.cond c x y) Q l w:=Fa f E h
def ZU (h:CW P n x Q l w) (f:ev l c=some (.bool (decide p)):=by exact rfl) (E:p:=by decide):CW P n (.cond c x y) Q l w:=QQ f E h
def C9 (h:CW P n y Q l w) (f:ev l c=some (.bool (decide p)):=by exact rfl) (E : ¬p:=by omega):CW P n (.cond c x y) Q l w:=Fa f E h
def S1 (h:CW P n x Q l w) (f:ev l c=some (.bool (decide p)):=by exact rfl) (E:p:=by omega):CW P n (.cond c x y) Q l w:=QQ f E h
end
section
variable {op:Op} {j dj:Nat} {p:Prop} [Decidable p]
def ZV (k:LW P n ops Q (⟨some d,op,ty,pos,after,none⟩::rest) l w) (f:BP ops j=some dj:=by exact rfl) (h:bM dj n=true:=by exact rfl) (E:Ck l dj=some (.bool (decide p)):=by exact rfl) (F:p:=by assumption):LW P n ops Q (⟨some d,op,ty,pos,after,some (j,true)⟩::rest) l w:=A2 f h E (Je F) k
def Lg (k:LW P n ops Q (⟨some d,op,ty,pos,after,none⟩::rest) l w) (f:BP ops j=some dj:=by exact rfl) (h:bM dj n=true:=by exact rfl) (E:Ck l dj=some (.bool (decide p)):=by exact rfl) (F:p:=by decide):LW P n ops Q (⟨some d,op,ty,pos,after,some (j,true)⟩::rest) l w:=A2 f h E (Je F) k
def aG (k:LW P n ops Q (⟨some d,op,ty,pos,after,none⟩::rest) l w) (f:BP ops j=some dj:=by exact rfl) (h:bM dj n=true:=by exact rfl) (E:Ck l dj=some (.bool (decide p)):=by exact rfl) (F:p:=by omega):LW P n ops Q (⟨some d,op,ty,pos,after,some (j,true)⟩::rest) l w:=A2 f h E (Je F) k
def S3 (k:LW P n ops Q (⟨some d,op,ty,pos,after,none⟩::rest) l w) (f:BP ops j=some dj:=by exact rfl) (h:bM dj n=true:=by exact rfl) (E:Ck l dj=some (.bool (decide p)):=by exact rfl) (F : ¬p:=by assumption):LW P n ops Q (⟨some d,op,ty,pos,after,some (j,false)⟩::rest) l w:=A2 f h E (IL F) k
def Jg (k:LW P n ops Q (⟨some d,op,ty,pos,after,none⟩::rest) l w) (f:BP ops j=some dj:=by exact rfl) (h:bM dj n=true:=by exact rfl) (E:Ck l dj=some (.bool (decide p)):=by exact rfl) (F : ¬p:=by decide):LW P n ops Q (⟨some d,op,ty,pos,after,some (j,false)⟩::rest) l w:=A2 f h E (IL F) k
def Kz (k:LW P n ops Q (⟨some d,op,ty,pos,after,none⟩::rest) l w) (f:BP ops j=some dj:=by exact rfl) (h:bM dj n=true:=by exact rfl) (E:Ck l dj=some (.bool (decide p)):=by exact rfl) (F : ¬p:=by omega):LW P n ops Q (⟨some d,op,ty,pos,after,some (j,false)⟩::rest) l w:=A2 f h E (IL F) k
def N1 (k:LW P n ops Q rest ((d,undef)::l) w) (f:BP ops j=some dj:=by exact rfl) (h:bM dj n=true:=by exact rfl) (E:Ck l dj=some (.bool (decide p)):=by exact rfl) (F:p:=by assumption) (L:bM d n=true:=by exact rfl):LW P n ops Q (⟨some d,op,ty,pos,after,some (j,false)⟩::rest) l w:=AP f h E (FF F) L k
def aH (k:LW P n ops Q rest ((d,undef)::l) w) (f:BP ops j=some dj:=by exact rfl) (h:bM dj n=true:=by exact rfl) (E:Ck l dj=some (.bool (decide p)):=by exact rfl) (F:p:=by decide) (L:bM d n=true:=by exact rfl):LW P n ops Q (⟨some d,op,ty,pos,after,some (j,false)⟩::rest) l w:=AP f h E (FF F) L k
def Zk (k:LW P n ops Q rest ((d,undef)::l) w) (f:BP ops j=some dj:=by exact rfl) (h:bM dj n=true:=by exact rfl) (E:Ck l dj=some (.bool (decide p)):=by exact rfl) (F:p:=by omega) (L:bM d n=true:=by exact rfl):LW P n ops Q (⟨some d,op,ty,pos,after,some (j,false)⟩::rest) l w:=AP f h E (FF F) L k
def Yr (k:LW P n ops Q rest ((d,undef)::l) w) (f:BP ops j=some dj:=by exact rfl) (h:bM dj n=true:=by exact rfl) (E:Ck l dj=some (.bool (decide p)):=by exact rfl) (F : ¬p:=by assumption) (L:bM d n=true:=by exact rfl):LW P n ops Q (⟨some d,op,ty,pos,after,some (j,true)⟩::rest) l w:=AP f h E (M5 F) L k
def aI (k:LW P n ops Q rest ((d,undef)::l) w) (f:BP ops j=some dj:=by exact rfl) (h:bM dj n=true:=by exact rfl) (E:Ck l dj=some (.bool (decide p)):=by exact rfl) (F : ¬p:=by decide) (L:bM d n=true:=by exact rfl):LW P n ops Q (⟨some d,op,ty,pos,after,some (j,true)⟩::rest) l w:=AP f h E (M5 F) L k
def ZW (k:LW P n ops Q rest ((d,undef)::l) w) (f:BP ops j=some dj:=by exact rfl) (h:bM dj n=true:=by exact rfl) (E:Ck l dj=some (.bool (decide p)):=by exact rfl) (F : ¬p:=by omega) (L:bM d n=true:=by exact rfl):LW P n ops Q (⟨some d,op,ty,pos,after,some (j,true)⟩::rest) l w:=AP f h E (M5 F) L k
end
end
 class LfE (w w':wD) (p:Prop) (q:outParam Prop):Prop where
 up:Ext w w'->p->q
 class LfF (S:nP) (w w':wD) (p:Prop) (s q:outParam Prop):Prop where
 up:Fr S w w'->s->p->q
 class ChE (w w':wD) (g:Prop) (g':outParam Prop):Prop where
 up:Ext w w'->g'->g
 class ChF (S:nP) (w w':wD) (g:Prop) (s g':outParam Prop):Prop where
 up:Fr S w w'->s->g'->g
instance (priority:=low) chE0 {w w':wD} {g:Prop}:ChE w w' g g:=⟨fun _ h=>h⟩
instance (priority:=low) chF0 {S:nP} {w w':wD} {g:Prop}:ChF S w w' g True g:=⟨fun _ _ h=>h⟩
instance chE1 {w w':wD} {p q g g':Prop} [LfE w w' p q] [ChE w w' g g']:ChE w w' (p->g) (q->g'):=⟨fun x h a=>ChE.up x (h (LfE.up x a))⟩
instance chF1 {S:nP} {w w':wD} {p s q g r g':Prop} [LfF S w w' p s q] [ChF S w w' g r g']:ChF S w w' (p->g) (s/\r) (q->g'):=⟨fun x s h a=>ChF.up x s.2 (h (LfF.up x s.1 a))⟩
def eE {w w':wD} {g f:Prop} (x:Ext w w') (k:f) [ChE w w' g f]:g:=ChE.up x k
def eF {S:nP} {w w':wD} {g s E:Prop} (x:Fr S w w') (k:E) [ChF S w w' g s E] (h:s:=by (repeat' apply And.intro)<;>first|exact trivial|omega|(simp only;omega)|exact fun k f=>bC f|exact fun b F h=>h (bC F)|exact fun k f=>bC (fun h=>f (bC h))|exact fun h=>h (bF ⟨by omega,by omega⟩)|exact fun h=>h (bC (bF ⟨by omega,by omega⟩))):g:=ChF.up x h k
section
variable {P:Program} {n d:Nat} {ops:Array Oper} {Q:Exit->Act->wD->Prop} {rest:List Oper} {l:Sl} {w:wD} {ty:TypeId} {pos:String} {after:Array Edge}
def eB {x:Operand} {t:Nat} {v:Value} (vs:lV) (k : ∀b f,Blk f b vs->Ext w f->b=w.heap.size->f.heap.size=b+1->LW P n ops Q rest ((d,.pointer (some ⟨b,0,none⟩))::l) f) (E:ev l x=some v:=by exact rfl) (F:v.cells=vs.toArray:=by exact rfl) (L:bM d n=true:=by exact rfl) :
 LW P n ops Q (⟨some d,.box t x,ty,pos,after,none⟩::rest) l w:=F1 vs E F L fun b f h=>k b f h.blk h.ext h.pos h.size
def eA {t:Nat} (vs:lV) (k : ∀b f,Blk f b vs->Ext w f->b=w.heap.size->f.heap.size=b+1->LW prog n ops Q rest ((d,.pointer (some ⟨b,0,none⟩))::l) f) (E:CT zt t=some vs:=by exact rfl) (F:bM d n=true:=by exact rfl) :
 LW prog n ops Q (⟨some d,.alloc t,ty,pos,after,none⟩::rest) l w:=Gn vs CM E F fun b f h=>k b f h.blk h.ext h.pos h.size
def eI {w0:wD} {x y:Operand} {t sz b:Nat} {s:Sk} {v:Value} {vs:lV} (us:lV) (E:New w0 w b vs) (k : ∀f,Blk f b us->Ext w0 f->b=w0.heap.size->f.heap.size=b+1->LW prog n ops Q rest l f) (F:AD tab t=some (s,sz):=by exact rfl)
 (L:ev l x=some (.pointer (some ⟨b,0,none⟩)):=by exact rfl) (M:ev l y=some v:=by exact rfl) (N:v.cells=us.toArray:=by exact rfl) (O:us.length=sz:=by exact rfl) (h1:us.all Value.one=true:=by exact rfl) (U:us.length=vs.length:=by exact rfl) :
 LW prog n ops Q (⟨none,.store t x y,ty,pos,after,none⟩::rest) l w:=FG us Ac F L M N O h1 E U fun f h=>k f h.blk h.ext h.pos h.size
def eV {x y:Operand} {t sz b o:Nat} {s:Sk} {v:Value} {vs:lV} (us f:lV) (F:Blk w b vs) (k : ∀E,Blk E b f->Fr (· = b) w E->E.heap.size=w.heap.size->LW prog n ops Q rest l E) (L:AD tab t=some (s,sz):=by exact rfl)
 (M:ev l x=some (.pointer (some ⟨b,o,none⟩)):=by exact rfl) (N:ev l y=some v:=by exact rfl) (O:v.cells=us.toArray:=by exact rfl) (U:us.length=sz:=by exact rfl) (h1:us.all Value.one=true:=by exact rfl) (V:cY (o+us.length) vs.length=true:=by exact rfl) (X:Bi vs o us=f:=by exact rfl) :
 LW prog n ops Q (⟨none,.store t x y,ty,pos,after,none⟩::rest) l w:=M6 us f Ac L M N O U h1 F V X fun E h=>k E h.blk h.fr h.size
def eS {x y:Operand} {t sz b o:Nat} {s:Sk} {v:Value} {vs:lV} (us:lV) (E:Blk w b vs) (k : ∀f,Blk f b us->Fr (· = b) w f->f.heap.size=w.heap.size->LW prog n ops Q rest l f) (F:AD tab t=some (s,sz):=by exact rfl)
 (L:ev l x=some (.pointer (some ⟨b,o,none⟩)):=by exact rfl) (M:ev l y=some v:=by exact rfl) (N:v.cells=us.toArray:=by exact rfl) (O:us.length=sz:=by exact rfl) (h1:us.all Value.one=true:=by exact rfl) (U:cY (o+us.length) vs.length=true:=by exact rfl) (V:Bi vs o us=us:=by exact rfl) :
 LW prog n ops Q (⟨none,.store t x y,ty,pos,after,none⟩::rest) l w:=M6 us us Ac F L M N O h1 E U V fun f h=>k f h.blk h.fr h.size
def eQ {f:FuncId} {xs:List Operand} {F:Array TypeId} {vs:lV} {R:Ending->wD->Prop} (L:evs l xs=some vs) (C:Calls P f vs.toArray w R) (k : ∀v E,Zc R (some v) E->LW P n ops Q rest ((d,v)::l) E) (M:Fl P f=true:=by kernel_rfl) (N : ∀e E,R e E -> ∃v,e = .returned v:=by exact fun _ _ h=>h.ret) (O:bM d n=true:=by exact rfl) :
 LW P n ops Q (⟨some d,.call ⟨.value (.func f),xs.toArray,F⟩,ty,pos,after,none⟩::rest) l w:=cR M L C N O k
def Gi {x:Operand} {t sz b o:Nat} {s:Sk} {vs:lV} {v:Value} (f:AD tab t=some (s,sz):=by exact rfl) (h:s.agg=false:=by exact rfl) (E:ev l x=some (.pointer (some ⟨b,o,none⟩)):=by exact rfl) (F:Blk w b vs:=by assumption)
 (L:vs[o]? = some v:=by exact rfl):BA prog n l (fun x=>x=w) (.load t x) ty v:=Pl F f h E L
def aJ {x:Operand} {t sz b o:Nat} {s:Sk} {vs:lV} {v:Value} (f:AD tab t=some (s,sz):=by exact rfl) (h:s.agg=false:=by exact rfl) (E:ev l x=some (.pointer (some ⟨b,o,none⟩)):=by exact rfl) (F:Row w ⟨b,o,none⟩ vs:=by assumption)
 (L:vs[0]? = some v:=by exact rfl):BA prog n l (fun x=>x=w) (.load t x) ty v:=Zj F f h E L
def aK {x:Operand} {t sz b o:Nat} {s:Sk} {vs:lV} (f:AD tab t=some (s,sz):=by exact rfl) (h:s.agg=true:=by exact rfl) (E:ev l x=some (.pointer (some ⟨b,o,none⟩)):=by exact rfl) (F:Row w ⟨b,o,none⟩ vs:=by assumption)
 (L:vs.length=sz:=by exact rfl):BA prog n l (fun x=>x=w) (.load t x) ty (.agg vs.toArray):=Uz F f h E L
def aL {x:Operand} {t sz b o:Nat} {s:Sk} {vs:lV} {f E F:Value} (L:AD tab t=some (s,sz):=by exact rfl) (X:cZ sz 3=true:=by exact rfl) (M:s.agg=true:=by exact rfl) (N:ev l x=some (.pointer (some ⟨b,o,none⟩)):=by exact rfl) (O:Blk w b vs:=by assumption)
 (U:cY (o+sz) vs.length=true:=by exact rfl) (V:(vs.drop o).take sz=[f,E,F]:=by exact rfl):BA prog n l (fun x=>x=w) (.load t x) ty (.agg ([f,E,F]:lV).toArray):=Cc [f,E,F] Ac L M N (fun Y h=>by subst h;exact O) U V
def aM {x:Operand} {t sz b o:Nat} {s:Sk} {vs:lV} {f E F L:Value} (M:AD tab t=some (s,sz):=by exact rfl) (Y:cZ sz 4=true:=by exact rfl) (N:s.agg=true:=by exact rfl) (O:ev l x=some (.pointer (some ⟨b,o,none⟩)):=by exact rfl) (U:Blk w b vs:=by assumption)
 (V:cY (o+sz) vs.length=true:=by exact rfl) (X:(vs.drop o).take sz=[f,E,F,L]:=by exact rfl):BA prog n l (fun x=>x=w) (.load t x) ty (.agg ([f,E,F,L]:lV).toArray):=Cc [f,E,F,L] Ac M N O (fun Z h=>by subst h;exact U) V X
def aN {x:Operand} {t sz b o:Nat} {s:Sk} {vs:lV} {f E F L M:Value} (N:AD tab t=some (s,sz):=by exact rfl) (Z:cZ sz 5=true:=by exact rfl) (O:s.agg=true:=by exact rfl) (U:ev l x=some (.pointer (some ⟨b,o,none⟩)):=by exact rfl) (V:Blk w b vs:=by assumption)
 (X:cY (o+sz) vs.length=true:=by exact rfl) (Y:(vs.drop o).take sz=[f,E,F,L,M]:=by exact rfl):BA prog n l (fun x=>x=w) (.load t x) ty (.agg ([f,E,F,L,M]:lV).toArray):=Cc [f,E,F,L,M] Ac N O U (fun wz h=>by subst h;exact V) X Y
def aO {x:Operand} {t sz b o:Nat} {s:Sk} {vs:lV} {f E F L M N:Value} (O:AD tab t=some (s,sz):=by exact rfl) (hz:cZ sz 6=true:=by exact rfl) (U:s.agg=true:=by exact rfl) (V:ev l x=some (.pointer (some ⟨b,o,none⟩)):=by exact rfl) (X:Blk w b vs:=by assumption)
 (Y:cY (o+sz) vs.length=true:=by exact rfl) (Z:(vs.drop o).take sz=[f,E,F,L,M,N]:=by exact rfl):BA prog n l (fun x=>x=w) (.load t x) ty (.agg ([f,E,F,L,M,N]:lV).toArray):=Cc [f,E,F,L,M,N] Ac O U V (fun wz h=>by subst h;exact X) Y Z
end
def eY {w w':wD} {g f:Prop} (x:Ext w w') (k:w.heap.size<=w'.heap.size->f) [ChE w w' g f]:g:=ChE.up x (k x.size)
def eZ {S:nP} {w w':wD} {g s E:Prop} (x:Fr S w w') (k:w.heap.size<=w'.heap.size->E) [ChF S w w' g s E] (h:s:=by (repeat' apply And.intro)<;>first|exact trivial|omega|(simp only;omega)|exact fun k f=>bC f|exact fun b F h=>h (bC F)|exact fun k f=>bC (fun h=>f (bC h))|exact fun h=>h (bF ⟨by omega,by omega⟩)|exact fun h=>h (bC (bF ⟨by omega,by omega⟩))):g:=ChF.up x h (k x.size)
def sB {m l:Sl} (h:Up m l:=by repeat (first|exact AY|refine Ak rfl ?_)):Up m l:=h
structure Hd (p:Prop):Prop where
 out:p
instance {S:nP} {w w':wD} {l:List Nd} {a:oA}:LfE w w' (rowSits S w l a) (rowSits S w' l a):=⟨fun x h=>Bk.rowSits.ext h x⟩
instance {S:nP} {w w':wD} {t:Nd} {a:oA}:LfE w w' (t.sits S w a) (t.sits S w' a):=⟨fun x h=>Bk.Nd.sits.ext h x⟩
instance {S T:nP} {w w':wD} {l:List Nd} {a:oA}:LfF T w w' (rowSits S w l a) (∀b,S b -> ¬T b) (rowSits S w' l a):=⟨fun x s h=>Bk.rowSits.fr h x s⟩
instance {S T:nP} {w w':wD} {t:Nd} {a:oA}:LfF T w w' (t.sits S w a) (∀b,S b -> ¬T b) (t.sits S w' a):=⟨fun x s h=>Bk.Nd.sits.fr h x s⟩
instance {w w':wD} {b:Nat} {vs:lV}:LfE w w' (Blk w b vs) (Blk w' b vs):=⟨fun x h=>Bk.Blk.ext h x⟩
instance {S:nP} {w w':wD} {b:Nat} {vs:lV}:LfF S w w' (Blk w b vs) (¬S b) (Blk w' b vs):=⟨fun x s h=>Bk.Blk.fr h x s⟩
instance {w w':wD} {p:Addr} {vs:lV}:LfE w w' (Row w p vs) (Row w' p vs):=⟨fun x h=>Bk.Row.ext h x⟩
instance {S:nP} {w w':wD} {p:Addr} {vs:lV}:LfF S w w' (Row w p vs) (¬S p.block) (Row w' p vs):=⟨fun x s h=>Bk.Row.fr h x s⟩
instance {w w':wD} {b:Nat} {vs:lV} {T:TypeId}:LfE w w' (TB w b vs T) (TB w' b vs T):=⟨fun x h=>Bk.TB.ext h x⟩
instance {w w':wD} {b e sz n:Nat} {v:Value} {cs:lV}:LfE w w' (Own w b e sz v n cs) (Own w' b e sz v n cs):=⟨fun x h=>Bk.Own.ext h x⟩
instance {S:nP} {w w':wD} {b e sz n:Nat} {v:Value} {cs:lV}:LfF S w w' (Own w b e sz v n cs) (∀k,v.ownBlock=some k -> ¬S k) (Own w' b e sz v n cs):=⟨fun x s h=>Bk.Own.fr h x s⟩
instance {w w':wD} {r:Nat} {kvs:List (lB×Value)}:LfE w w' (MapIs w r kvs) (MapIs w' r kvs):=⟨fun x h=>Bk.MapIs.ext h x⟩
instance {S:nP} {w w':wD} {r:Nat} {kvs:List (lB×Value)}:LfF S w w' (MapIs w r kvs) (¬S r) (MapIs w' r kvs):=⟨fun x s h=>Bk.MapIs.fr h x s⟩
instance {a b c:wD}:LfE b c (Ext a b) (Ext a c):=⟨fun x h=>Bk.Ext.ext h x⟩
instance {S:nP} {a b c:wD}:LfE b c (Fr S a b) (Fr S a c):=⟨fun x h=>Bk.Fr.ext h x⟩
instance {S:nP} {a b c:wD}:LfF S b c (Ext a b) (∀k,S k->a.heap.size<=k) (Ext a c):=⟨fun x s h=>Bk.Ext.fr h x s⟩
instance {S T:nP} {a b c:wD}:LfF S b c (Fr T a b) (∀k,S k->T k\/a.heap.size<=k) (Fr T a c):=⟨fun x s h=>Bk.Fr.fr h x s⟩
instance {S:nP} {w w':wD} {b:Nat} {vs:lV} {T:TypeId}:LfF S w w' (TB w b vs T) (¬S b) (TB w' b vs T):=⟨fun x s h=>Bk.TB.fr h x s⟩
def eK {A B:Prop} (a:A) (h:Hd A->B:=by
 intro a
 repeat (first
  | refine cS ?_|refine cN ?_|refine cT ?_|refine C1 Mv ?_|refine C1 Pa ?_|refine C1 Gi ?_|refine C1 aM ?_|refine C1 aO ?_|refine C1 aL ?_|refine C1 aN ?_|refine C1 aJ ?_|refine C1 aK ?_|refine C1 Pg ?_|refine C1 Pf ?_|refine C1 V1 ?_|refine C1 V8 ?_|refine C1 V2 ?_|refine C1 V3 ?_|refine C1 Pz ?_|refine C1 Py ?_|refine C1 Pn ?_|refine C1 Px ?_|refine C1 Pt ?_|refine C1 Pi ?_|refine C1 V7 ?_|refine C1 V4 ?_|refine C1 V5 ?_|refine C1 V6 ?_|refine C1 V9 ?_
  | refine Aj ?_|refine Ar ?_|refine As ?_|refine Ai ?_|refine AL ?_|refine AV ?_|refine AG ?_|refine A8 ?_|refine CB ?_|refine BD ?_|refine Ae ?_|refine Ad ?_|refine Ah ?_
  | refine N0 ?_|refine OX ?_|refine CK rfl ?_|refine Da rfl ?_|refine Hj ?_|refine ZU ?_|refine C9 ?_|refine S1 ?_
  | refine ZV ?_|refine S3 ?_|refine N1 ?_|refine Yr ?_|refine A2 rfl rfl rfl (rfl) ?_|refine AP rfl rfl rfl (rfl) rfl ?_|refine Lg ?_|refine Jg ?_|refine aH ?_|refine aI ?_|refine aG ?_|refine Kz ?_|refine Zk ?_|refine ZW ?_
  | refine C1 (By rfl rfl rfl) ?_|refine C1 (Bc rfl rfl rfl) ?_|refine C1 SZ ?_|refine C1 S0 ?_|refine C1 WD ?_|refine C1 Wp ?_|refine C1 Uy ?_|refine C1 OQ ?_)
 exact a.out):B:=h ⟨a⟩
section
variable {P:Program} {n d i K:Nat} {ops:Array Oper} {Q:Exit->Act->wD->Prop} {r:Sc} {l:Sl} {w:wD} {ty:TypeId} {pos:String} {after:Array Edge} {S:wD->Prop}
def eD {x:Operand} {t sz b o:Nat} {s:Sk} {vs:lV} {v:Value} {w0:wD} (f:AD tab t=some (s,sz):=by exact rfl) (h:s.agg=false:=by exact rfl) (E:ev l x=some (.pointer (some ⟨b,o,none⟩)):=by exact rfl) (F:Blk w0 b vs:=by assumption) (L:vs[o]? = some v:=by exact rfl) :
 BA prog n l (fun M=>Ext w0 M) (.load t x) ty v:=Db F f h E L
def eN {op:Op} {v:Value} {j dj:Nat} {f b:Bool} (h:ops.toList[i]? = some ⟨some d,op,ty,pos,after,some (j,f)⟩) (E:BA P n l S op ty v) (k:TW P n ops Q S K r ((d,v)::l) w) (F:BP ops j=some dj:=by exact rfl) (L:bM dj n=true:=by exact rfl) (M:Ck l dj=some (.bool b):=by exact rfl) (N:(b==f)=true:=by first|exact Je ‹_› | exact IL ‹_› | rfl|exact Je (by decide)|exact IL (by decide)|exact Je (by omega)|exact IL (by omega)) (O:bM d n=true:=by exact rfl) :
 TW P n ops Q S K (.pure i r) l w:=Zi h F L M N E O k
def eM {op:Op} {j dj:Nat} {f b:Bool} (h:ops.toList[i]? = some ⟨some d,op,ty,pos,after,some (j,f)⟩) (k:TW P n ops Q S K r ((d,undef)::l) w) (E:BP ops j=some dj:=by exact rfl) (F:bM dj n=true:=by exact rfl) (L:Ck l dj=some (.bool b):=by exact rfl) (M:(b==f)=false:=by first|exact FF ‹_› | exact M5 ‹_› | rfl|exact FF (by decide)|exact M5 (by decide)|exact FF (by omega)|exact M5 (by omega)) (N:bM d n=true:=by exact rfl) :
 TW P n ops Q S K (.pure i r) l w:=Gd h E F L M N k
end
def eT {A B:Prop} (a:A) (h:Hd A->B:=by
 intro a
 repeat (first
  | refine Tq rfl Mv ?_|refine Tq rfl eD ?_|refine Tq rfl Pg ?_|refine Tq rfl Pf ?_|refine Tq rfl Pn ?_|refine Tq rfl V1 ?_|refine Tq rfl V8 ?_|refine Tq rfl V2 ?_|refine Tq rfl V3 ?_|refine Tq rfl Pz ?_|refine Tq rfl Py ?_|refine Tq rfl Px ?_|refine Tq rfl Pt ?_|refine Tq rfl Pa ?_|refine Tq rfl Pi ?_|refine Tq rfl V7 ?_|refine Tq rfl V4 ?_|refine Tq rfl V5 ?_|refine Tq rfl V6 ?_|refine Tq rfl V9 ?_|refine Tq rfl (By rfl rfl rfl) ?_|refine Tq rfl (Bc rfl rfl rfl) ?_|refine Tq rfl SZ ?_|refine Tq rfl S0 ?_|refine Tq rfl WD ?_|refine Tq rfl Wp ?_|refine Tq rfl Uy ?_|refine Tq rfl OQ ?_
  | refine eN rfl Mv ?_|refine eN rfl eD ?_|refine eN rfl Pg ?_|refine eN rfl Pf ?_|refine eN rfl Pn ?_|refine eN rfl V1 ?_|refine eN rfl V8 ?_|refine eN rfl V2 ?_|refine eN rfl V3 ?_|refine eN rfl Pz ?_|refine eN rfl Py ?_|refine eN rfl Px ?_|refine eN rfl Pt ?_|refine eN rfl Pa ?_|refine eN rfl Pi ?_|refine eN rfl V7 ?_|refine eN rfl V4 ?_|refine eN rfl V5 ?_|refine eN rfl V6 ?_|refine eN rfl V9 ?_|refine eN rfl (By rfl rfl rfl) ?_|refine eN rfl (Bc rfl rfl rfl) ?_|refine eN rfl SZ ?_|refine eN rfl S0 ?_|refine eN rfl WD ?_|refine eN rfl Wp ?_|refine eN rfl Uy ?_|refine eN rfl OQ ?_
  | refine eM rfl ?_)
 exact a.out):B:=h ⟨a⟩
section
variable {P:Program} {n d:Nat} {ops:Array Oper} {Q:Exit->Act->wD->Prop} {rest:List Oper} {l:Sl} {w:wD} {ty:TypeId} {pos:String} {after:Array Edge} {S:wD->Prop} {x:Operand} {t sz b:Nat} {s:Sk} {vs:lV}
def xS {e f len:Nat} {sE:Sk} {F:lV} {E:List (Nat×Operand)} (cs:lV) (L:AD tab t=some (.slice e,sz):=by exact rfl) (M:AD tab e=some (sE,f):=by exact rfl) (N:CT zt e=some F:=by exact rfl) (O:GQ l 0 E=some vs:=by exact rfl) (U:vs.length=len:=by exact rfl)
 (V:vs.all (fun v=>cZ v.cells.size f)=true:=by exact rfl) (X:cY (len*f) 10000=true:=by exact rfl) (h:bM 0 (len*f)=true:=by exact rfl) (Y:(vs.map (·.cells.toList)).flatten=cs:=by exact rfl):Cr prog n l (.buildSlice t len E.toArray) ty w (NV w len cs e):=Es cs Ac CM L M N O U V X h Y
def xB {h:List (Nat×Nat)} {xs:List (Nat×Operand)} {L:List (Nat×Value)} {E:List (Nat×Nat×lV)} {F:lV} (f:lV) (M:AD tab t=some (.struct h,sz):=by exact rfl) (N:CT zt t=some F:=by exact rfl) (O:IW tab h l xs=some (L,E):=by exact rfl) (U:IK E F=some f:=by exact rfl) :
 BA prog n l S (.build t xs.toArray) ty (.agg f.toArray):=Dp f Ac CM M N O U
def xR {fn:Func} {R:Ending->wD->Prop} {v:Value} (f:R (.returned v) w) (h:fn.results = #[.tmp t]:=by exact rfl) (E:Ck l t=some v:=by exact rfl):QW n (bodyPost P fn R) .ret l w:=Be h E f
def xT {fn:Func} {R:Ending->wD->Prop} {u:Nat} {v x:Value} (f:R (.returned (.tuple #[v,x])) w) (h:fn.results = #[.tmp t,.tmp u]:=by exact rfl) (E:Ck l t=some v:=by exact rfl) (F:Ck l u=some x:=by exact rfl):QW n (bodyPost P fn R) .ret l w:=CC h E F f
def xC {fn:Func} {R:Ending->wD->Prop} {ty:Nat} (f:Blk w b vs) (E:R (.returned (.agg vs.toArray)) w) (h:fn.results = #[.cell t ty]:=by exact rfl) (F:AD tab ty=some (s,sz):=by exact rfl) (L:s.agg=true:=by exact rfl) (M:Ck l t=some (.pointer (some ⟨b,0,none⟩)):=by exact rfl) (N:vs.length=sz:=by exact rfl):QW n (bodyPost prog fn R) .ret l w:=E5 h Ac F L M f N E
def xA (vs:lV) (k : ∀b f,New w f b vs->LW prog n ops Q rest ((d,.pointer (some ⟨b,0,none⟩))::l) f) (h:CT zt t=some vs:=by exact rfl) (E:bM d n=true:=by exact rfl):LW prog n ops Q (⟨some d,.alloc t,ty,pos,after,none⟩::rest) l w:=Gn vs CM h E k
def xL {o:Nat} (us:lV) (f : ∀w,S w->Blk w b vs) (h:AD tab t=some (s,sz):=by exact rfl) (E:s.agg=true:=by exact rfl) (F:ev l x=some (.pointer (some ⟨b,o,none⟩)):=by exact rfl) (L:cY (o+sz) vs.length=true:=by exact rfl) (M:(vs.drop o).take sz=us:=by exact rfl) :
 BA prog n l S (.load t x) ty (.agg us.toArray):=Cc us Ac h E F f L M
def xD {p:Addr} {v:Value} (f : ∀w,S w->w.cell? p=some v) (h:AD tab t=some (s,sz):=by exact rfl) (E:s.agg=false:=by exact rfl) (F:ev l x=some (.pointer (some p)):=by exact rfl):BA prog n l S (.load t x) ty v:=Ax Ac h E F f
end
section
variable {P:Program} {n d i K:Nat} {ops:Array Oper} {Q:Exit->Act->wD->Prop} {x:Sc} {l:Sl} {w:wD} {ty:TypeId} {pos:String} {after:Array Edge} {S:wD->Prop}
def tC {f:FuncId} {xs:List Operand} {F:Array TypeId} {vs:lV} {R:Ending->wD->Prop} (M:ops.toList[i]? = some ⟨some d,.call ⟨.value (.func f),xs.toArray,F⟩,ty,pos,after,none⟩) (L:evs l xs=some vs) (C:Calls P f vs.toArray w R)
 (k : ∀v E,Zc R (some v) E->S E/\TW P n ops Q S K x ((d,v)::l) E) (N:Fl P f=true:=by kernel_rfl) (O : ∀e E,R e E -> ∃v,e = .returned v:=by first|exact fun _ _ h=>h.ret|exact fun _ _ h=>⟨_,h.1⟩) (U:bM d n=true:=by exact rfl):TW P n ops Q S K (.fork i x .none) l w:=
 A1 M (Bb N L C O) U k (fun _ h=>h) A7
end
def Ag {q:Prop} (h:q:=by assumption):q:=h
def Ab {q:Prop} (h:q:=by omega):q:=h
def Az {q:Prop} (h:q:=by decide):q:=h
def Bd {q:Prop} (h:q:=by simp):q:=h
def aFh.{u} {α:Sort u} {p:α->Prop} : ∀a,p a->p a:=fun _ h=>h
def aT {w w':wD} (h:Ext w w':=by repeat (first|exact Ext.refl _|assumption|refine Ext.alloc ?_ _|refine Ext.drew ?_|refine Ext.trans ?_ ‹_›)):Ext w w':=h
def Bl {q:Prop} (h:q:=by kernel_rfl):q:=h
section
variable {P:Program} {n:Nat} {l:Sl} {w:wD} {ty:TypeId} {Q:Exit->Act->wD->Prop} {ops:Array Oper} {rest:List Oper} {pos:String} {after:Array Edge} {A:Ending->wD->Prop} {B:List PanicEntry->wD->Prop}
variable {tab:Tab}
end
def Dc (late:List Nat) (i:Nat):Bool:= !(late.contains i)
def N2 (ops:Array Oper) (late free0:List Nat) (i:Nat):Prop:= ∀(listed:Array Bool) (j:Nat) (o:Oper),DC ops listed->(∀k∈free0,listed.getD k false=true)->listed.getD j true=false->Dc late j=false->ops[j]? = some o->(∀e∈o.after,dB .any e=true->listed.getD e.on false=true)->listed.getD i false=true
def N3 (ops:Array Oper) (late free0:List Nat) (j0:Nat):Bool:=((List.range ops.size).all fun i=> !(Dc late i)||(List.range' (i+1) (ops.size-(i+1))).any fun m=>(cZ m j0||Dc late m)&&Lr ops m i)&&late.all fun j=>free0.contains j||(cZ j j0||Lr ops j j0)
def Lw {ops:Array Oper} {late free0:List Nat} {V:Nat} (h:N3 ops late free0 V=true) {i:Nat} (hi:i<ops.size) (hE:Dc late i=true):N2 ops late free0 i:=by
 simp only [N3,bB,cX,List.mem_range] at h;obtain ⟨h1,h2⟩:=h;intro f j o X hF N hj ho L;have ac:j∈late:=by
  unfold Dc at hj;simpa using hj
 have E:=h2 j ac;have E:(cZ j V||Lr ops j V)=true:=by
  rw [Bool.or_eq_true] at E;rcases E with F|F
  . exfalso;have M:=hF j (by simpa using F);rcases bQ j f.size with h'|h'
    . simp [h'] at M N;rw [M] at N;cases N
    . simp [cJ h'] at M
  . exact F
 simp only [Bool.or_eq_true] at E;have O : ∀o0,ops[V]? = some o0 -> ∀e∈o0.after,dB .any e=true->f.getD e.on false=true:=by
  intro o0 U;rcases E with E|E
  . have ad:=cQ E;subst ad;rw [ho] at U;obtain rfl:=bO U;exact L
  . obtain ⟨oj,e',Y,ae,af,Z⟩:=GT E;rw [ho] at Y;obtain rfl:=bO Y;have M:=L e' ae af;rw [Z] at M;exact X V o0 U M
 have key : ∀d i,ops.size-i<=d->i<ops.size->Dc late i=true->f.getD i false=true:=by
  intro d
  induction d with
  | zero=>intro i hd hi;omega
  | succ d ih=>
   intro i hd hi hE;have hg:=h1 i hi;rw [hE] at hg;simp only [Bool.not_true,Bool.false_or,List.any_eq_true,List.mem_range'_1,bB,Bool.or_eq_true] at hg;obtain ⟨m,hm,F,hw⟩:=hg;obtain ⟨om,e,aa,he,hb,ab⟩:=GT hw;rcases F with F|F
   . have ag:=cQ F;subst ag;have:=O om aa e he hb;rwa [ab] at this
   . have M:=ih m Ab Ab F;have:=X m om aa M e he hb;rwa [ab] at this
 exact key _ i (bJ _) hi hE
section
variable {P:Program} {ops:Array Oper} {Q:Exit->Act->wD->Prop} {S S2:wD->Prop} {late free0:List Nat} {K:Nat}
def J2 (P:Program) (ops:Array Oper) (Q:Exit->Act->wD->Prop) (S S2:wD->Prop) (late:List Nat) (K:Nat):Nat->Array Bool->Act->wD->Prop
 | 0,listed,a,w=>bU .any ops listed=[]/\Q .normal a w
 | fuel+1,listed,a,w=>
  (bU .any ops listed=[]->Q .normal a w) /\
  ∀i∈bU .any ops listed,wpOp P ops Q i (fun a' w'=>(Dc late i=true->S w')/\(i<K->S2 w')/\J2 P ops Q S S2 late K fuel (listed.setIfInBounds i true) a' w') a w
def Lx : ∀(f:Nat) (E:Array Bool) (a:Act) (w:wD),J2 P ops Q S S2 late K f E a w->wpAny P .any ops Q f E a w
 | 0,_,_,_,h=>h
 | f+1,_,_,_,h=>⟨h.1,fun i F=>wpOp_mono (fun L w' M=>Lx f _ L w' M.2.2) (h.2 i F)⟩
def ML {f:Array Bool} {j k:Nat} (h:f.getD k false=true):(f.setIfInBounds j true).getD k false=true:=by
 by_cases E:j=k
 . subst E;rcases bQ j f.size with F|F
   . simp [F]
   . simp [cJ F] at h
 . rw [getD_set_ne false E];exact h
def Jh {i:Nat} {oi:Oper} {v:Value} {T:wD->Prop} (hi:ops[i]? = some oi) (af : ∀w,S w->S2 w) (hT:(Dc late i=true/\N2 ops late free0 i/\T=S)\/(Dc late i=false/\Gb ops K i/\T=S2)) (Y : ∀(j:Nat) (o:Oper) cs b,ops[j]? = some o->o.op≠.select cs b)
 (hQ : ∀c a w,Q (.panic c) (a.put oi.dst v) w->Q (.panic c) a w) :
 ∀(E:Nat) (f:Array Bool) (a:Act) (w:wD),DC ops f->(Dc late i=true -> ∀k∈free0,f.getD k false=true) ->
  (∀j V,ops[j]? = some V->j≠i->f.getD j true=false->(∀e∈V.after,dB .any e=true->e.on≠i)->oi.apart ops V=true) ->
  i∈bU .any ops f->YieldsIf P ops T oi v a->T w ->
  J2 P ops Q S S2 late K E (f.setIfInBounds i true) (a.put oi.dst v) w->J2 P ops Q S S2 late K (E+1) f a w:=by
 have ac : ∀w,T w->Dc late i=true->S w:=fun w h he=>by
  rcases hT with ⟨-,-,rfl⟩|⟨h0,-⟩
  . exact h
  . rw [h0] at he;cases he
 have Z : ∀w,T w->S2 w:=fun w h=>by
  rcases hT with ⟨-,-,rfl⟩|⟨-,-,rfl⟩
  . exact af w h
  . exact h
 intro E
 induction E with
 | zero=>
  intro f a w _ _ _ hr hy hS H;refine ⟨fun h=>(by rw [h] at hr;cases hr),fun j hj=>?_⟩;by_cases F:j=i
  . subst F;exact hy.wpOp hi hS ⟨ac w hS,fun _=>Z w hS,H⟩
  . have:=ready_mono hj F;rw [H.1] at this;cases this
 | succ E ih=>
  intro f a w aa hF M hr hy hS H;refine ⟨fun h=>(by rw [h] at hr;cases hr),fun j hj=>?_⟩;by_cases F:j=i
  . subst F;exact hy.wpOp hi hS ⟨ac w hS,fun _=>Z w hS,H⟩
  . have h1:=H.2 j (ready_mono hj F);obtain ⟨N,V,O,U⟩:=mem_ready.1 hj;have L : ¬f.getD i false=true:=fun hc=>by
     have h0:=(mem_ready.1 hr).1;rcases bQ i f.size with h'|h'
     . simp [h'] at h0 hc;rw [h0] at hc;cases hc
     . simp [cJ h'] at hc
    have ag : ∀w',(Dc late j=true->S w')->(j<K->S2 w')->T w':=fun w' h' h2=>by
     rcases hT with ⟨ah,ab,rfl⟩|⟨-,ab,rfl⟩
     . cases hej:Dc late j
       . exact absurd (ab f j V aa (hF ah) N hej O U) L
       . exact h' hej
     . rcases bQ j K with h|h
       . exact h2 h
       . exact absurd (ab f j V aa h O U) L
    have ad : ∀e∈V.after,dB .any e=true->e.on≠i:=fun e he hb ai=>L (ai▸U e he hb)
    have h2:=wpOp_putIf O (M j V O F N ad) (fun cs b=>Y i oi cs b hi) (fun cs b=>Y j V cs b O) hQ hy h1;have X : ∀k ok,ops[k]? = some ok->k≠i->(f.setIfInBounds j true).getD k true=false ->
     (∀e∈ok.after,dB .any e=true->e.on≠i)->oi.apart ops ok=true:=fun k ok hk aj L ak=>by
     refine M k ok hk aj ?_ ak;by_cases ae:j=k
     . subst ae;exact N
     . rw [getD_set_ne true ae] at L;exact L
    refine wpOp_mono (fun a' w' h3=>⟨h3.2.1,h3.2.2.1,ih (f.setIfInBounds j true) a' w' (aa.set hj) (fun hE k hk=>ML (hF hE k hk)) X (ready_mono hr (Ne.symm F)) h3.1 (ag w' h3.2.1 h3.2.2.1) ?_⟩) h2;rw [Array.setIfInBounds_comm _ _ F];exact h3.2.2.2
end
inductive ScE where
 | done
 | pure (i:Nat) (r:ScE)
 | free (i:Nat) (r:ScE)
 | put (i:Nat) (r:ScE)
 | tail (k:Nat)
def ScE.ok (ops:Array Oper) (late free0:List Nat) (K:Nat):ScE->Nat->Array Bool->Bool
 | .done,_,listed=>(bU .any ops listed).isEmpty
 | .pure i r,f+1,listed=>(free0.all fun k=>listed.getD k false)&&Dc late i&&(bU .any ops listed).contains i&&Region.free .any ops listed i&&ScE.ok ops late free0 K r f (listed.setIfInBounds i true)
 | .free i r,f+1,listed=> !(Dc late i)&&bM i K&&(bU .any ops listed).contains i&&Region.free .any ops listed i&&ScE.ok ops late free0 K r f (listed.setIfInBounds i true)
 | .put i r,f+1,listed=> !(Dc late i)&&(bU .any ops listed==[i])&&ScE.ok ops late free0 K r f (listed.setIfInBounds i true)
 | .tail k,f,listed=>cY K k&&cZ (f+k) ops.size&&(List.range' k f).all (fun j=> !(Dc late j))&&Hi ops f k listed
 | _,_,_=>false
def HTE (P:Program) (ops:Array Oper) (Q:Exit->Act->wD->Prop) (S S2:wD->Prop):ScE->Act->wD->Prop
 | .done,a,w=>Q .normal a w
 | .pure i r,a,w=>S w /\ ∃o v,ops.toList[i]? = some o/\YieldsIf P ops S o v a/\HTE P ops Q S S2 r (a.put o.dst v) w
 | .free i r,a,w=>S2 w /\ ∃o v,ops.toList[i]? = some o/\YieldsIf P ops S2 o v a/\HTE P ops Q S S2 r (a.put o.dst v) w
 | .put i r,a,w=>wpOp P ops Q i (fun a' w'=>S2 w'/\HTE P ops Q S S2 r a' w') a w
 | .tail k,a,w=>wpList P ops Q (ops.toList.drop k) a w
def IY {P:Program} {ops:Array Oper} {Q:Exit->Act->wD->Prop} {S S2:wD->Prop} {late:List Nat} {K:Nat} : ∀(f k:Nat) (E:Array Bool) (a:Act) (w:wD),K<=k->f+k=ops.size->(∀j,k<=j->j<k+f->Dc late j=false)->Hi ops f k E=true->wpList P ops Q (ops.toList.drop k) a w->J2 P ops Q S S2 late K f E a w
 | 0,k,E,a,w,X,Y,M,F,h=>by
  have:ops.toList.drop k=[]:=List.drop_eq_nil_of_le (by simp;omega);rw [this] at h;exact ⟨by simpa [Hi] using F,h⟩
 | f+1,k,E,a,w,X,Y,M,F,h=>by
  simp only [Hi,bB,beq_iff_eq] at F;have N:k<ops.toList.length:=by simp;omega
  rw [cW N] at h;refine ⟨fun e=>absurd (F.1.symm.trans e) Bd,fun i O=>?_⟩;rw [F.1] at O;simp only [dG] at O;subst O;have V:=M i (bJ _) Ab;have L : ∀j,i+1<=j->j<i+1+f->Dc late j=false:=fun j h1 h2=>M j Ab Ab
  have Z:ops[i]? = some ops.toList[i]:=by simp
  unfold wpList at h;unfold wpOp;rw [Z];simp only;split
  . rename_i U;rw [AU U] at h;rcases h with h|h
    . exact bC (Oper.wp_mono (fun a' w' h'=>⟨fun e=>(by rw [V] at e;cases e),fun e=>by omega,IY f (i+1) _ a' w' Ab Ab L F.2 h'⟩) h)
    . exact bF h
  . rename_i U;rw [AE U] at h;exact ⟨fun e=>(by rw [V] at e;cases e),fun e=>by omega,IY f (i+1) _ _ w Ab Ab L F.2 h⟩
def HTE.any {P:Program} {ops:Array Oper} {Q:Exit->Act->wD->Prop} {S S2:wD->Prop} {late free0:List Nat} {K:Nat} (O : ∀w,S w->S2 w) (M : ∀i,i<K->Gb ops K i) (Y:Region.noSelect ops=true) (U : ∀i,i<ops.size->Dc late i=true->N2 ops late free0 i) (Z:DV Q) :
 ∀(s:ScE) (f:Nat) (E:Array Bool) (a:Act) (w:wD),DC ops E->HTE P ops Q S S2 s a w->ScE.ok ops late free0 K s f E=true->J2 P ops Q S S2 late K f E a w
 | .done,f,E,a,w,N,h,F=>by
  have V:bU .any ops E=[]:=by simpa [ScE.ok] using F
  cases f with
  | zero=>exact ⟨V,h⟩
  | succ f=>exact ⟨fun _=>h,by rw [V];simp⟩
 | .tail k,f,E,a,w,N,h,F=>by
  simp only [ScE.ok,bB,cX,List.mem_range'_1] at F;exact IY f k E a w (cE F.1.1.1) (cQ F.1.1.2) (fun j h1 h2=>by simpa using F.1.2 j ⟨h1,h2⟩) F.2 h
 | .pure i r,0,E,a,w,N,h,F=>by simp [ScE.ok] at F
 | .pure i r,f+1,E,a,w,N,h,F=>by
  simp only [ScE.ok,bB] at F;obtain ⟨hS,o,v,ho,hy,V⟩:=h;have X:ops[i]? = some o:=by simpa using ho
  have aa:i<ops.size:=(Array.getElem?_eq_some_iff.1 X).1;have L:i∈bU .any ops E:=by simpa using F.1.1.2
  exact Jh (T:=S) (free0:=free0) X O (bC ⟨F.1.1.1.2,U i aa F.1.1.1.2,rfl⟩) (Region.noSelect_spec Y) (fun c a w=>Z o.dst v c a w) f E a w N (fun _ k ab=>cX.1 F.1.1.1.1 k ab) (Region.free_spec X F.1.2) L hy hS
   (HTE.any O M Y U Z r f _ _ w (N.set L) V F.2)
 | .free i r,0,E,a,w,N,h,F=>by simp [ScE.ok] at F
 | .free i r,f+1,E,a,w,N,h,F=>by
  simp only [ScE.ok,bB,Bool.not_eq_true'] at F;obtain ⟨hS,o,v,ho,hy,V⟩:=h;have X:ops[i]? = some o:=by simpa using ho
  have L:i∈bU .any ops E:=by simpa using F.1.1.2
  have ac:=cE F.1.1.1.2;exact Jh (T:=S2) (free0:=free0) X O (bF ⟨F.1.1.1.1,M i ac,rfl⟩) (Region.noSelect_spec Y) (fun c a w=>Z o.dst v c a w) f E a w N (fun e=>(by rw [F.1.1.1.1] at e;cases e)) (Region.free_spec X F.1.2) L hy hS
   (HTE.any O M Y U Z r f _ _ w (N.set L) V F.2)
 | .put i r,0,E,a,w,N,h,F=>by simp [ScE.ok] at F
 | .put i r,f+1,E,a,w,N,h,F=>by
  simp only [ScE.ok,bB,Bool.not_eq_true',beq_iff_eq] at F;obtain ⟨⟨h1,h2⟩,h3⟩:=F;refine ⟨fun e=>(by rw [h2] at e;cases e),fun j hj=>?_⟩;rw [h2] at hj;simp only [dG] at hj;subst hj;have L:j∈bU .any ops E:=by rw [h2];simp
  exact wpOp_mono (fun a' w' h'=>⟨fun e=>(by rw [h1] at e;cases e),fun _=>h'.1,HTE.any O M Y U Z r f _ a' w' (N.set L) h'.2 h3⟩) h
def XY (P:Program) (n:Nat) (ops:Array Oper) (Q:Exit->Act->wD->Prop) (S S2:wD->Prop) (s:ScE) (l:Sl) (w:wD):Prop:= ∀a,Env n l a->HTE P ops Q S S2 s a w
section draws
variable {P:Program} {n:Nat} {ops:Array Oper} {Q:Exit->Act->wD->Prop} {S S2:wD->Prop} {l:Sl} {w:wD}
 {d i:Nat} {ty:TypeId} {pos:String} {after:Array Edge} {r:ScE}
def Ji {Z:Nat} {f:List Oper} (S S2:wD->Prop) (late free0:List Nat) (j0 K:Nat) (s:ScE) (N : ∀w,S w->S2 w) (hm:P.follows .mixedOrders=true) (F:(Region.noSelect f.toArray&&(cY f.length K||Ls f.toArray K)&&N3 f.toArray late free0 j0&&ScE.ok f.toArray late free0 K s f.length (Array.replicate f.length false))=true) (hQ:DV Q)
 (h : ∀O,Ext w O->O.heap=w.heap->XY P n f.toArray Q S S2 s l O):CW P n (.region Z f.toArray true) Q l w:=by
 unfold CW;intro a ha;simp only [bB] at F;have h2:=h w.drew (Ext.refl w).drew rfl;have U:DC f.toArray (Array.replicate f.length false):=fun k o _ E=>by
  exfalso;rcases bQ k f.length with V|V
  . simp [V] at E
  . simp [cJ,V] at E
 have L : ∀i,i<K->Gb f.toArray K i:=by
  by_cases X:K<f.toArray.size
  . have E:=F.1.1.2;simp only [Bool.or_eq_true] at E;rcases E with E|E
    . have:=cE E;simp at X;omega
    . exact Gc E X
  . intro i Y M j o _ hj ho _;have aa:j<f.toArray.size:=(Array.getElem?_eq_some_iff.1 ho).1;omega
 refine wp_region_any hm (Lx (S:=S) (S2:=S2) (late:=late) (K:=K) _ _ _ _ ?_);have:=HTE.any N L F.1.1.1 (fun i Y hE=>Lw F.1.2 Y hE) hQ s f.length (Array.replicate f.length false) a w.drew U (h2 a ha) F.2;simpa using this
def Jj {f:List Oper} {k:Nat} (E:Lv k ops.toList=some f) (h:LW P n ops Q f l w):XY P n ops Q S S2 (.tail k) l w:=by
 unfold LW at h;intro a F;show wpList P ops Q (ops.toList.drop k) a w;rw [GU E];exact h a F
def AQ {op:Op} {v:Value} (f:S w) (F:ops.toList[i]? = some ⟨some d,op,ty,pos,after,none⟩) (h:BA P n l S op ty v) (L:bM d n=true) (k:XY P n ops Q S S2 r ((d,v)::l) w) :
 XY P n ops Q S S2 (.pure i r) l w:=by
 unfold BA at h;exact fun a E=>⟨f,_,v,F,bC ⟨rfl,fun w f=>h a w _ _ _ _ E f⟩,k _ (E.put L v)⟩
def DO {op:Op} {v:Value} (f:S2 w) (F:ops.toList[i]? = some ⟨some d,op,ty,pos,after,none⟩) (h:BA P n l S2 op ty v) (L:bM d n=true) (k:XY P n ops Q S S2 r ((d,v)::l) w) :
 XY P n ops Q S S2 (.free i r) l w:=by
 unfold BA at h;exact fun a E=>⟨f,_,v,F,bC ⟨rfl,fun w f=>h a w _ _ _ _ E f⟩,k _ (E.put L v)⟩
def Jk {op:Op} {L:Option Value->wD->Prop} (O:ops.toList[i]? = some ⟨none,op,ty,pos,after,none⟩) (M:Cr P n l op ty w L)
 (k : ∀v f,L v f->S2 f/\XY P n ops Q S S2 r l f):XY P n ops Q S S2 (.put i r) l w:=fun a E=>by
 unfold Cr at M;have F:ops[i]? = some ⟨none,op,ty,pos,after,none⟩:=by simpa using O
 show wpOp P ops Q i _ a w;unfold wpOp;rw [F];simp only;rw [AU (B0 rfl)];left;exact M a _ _ _ _ _ _ E (fun v f N=>⟨(k _ f N).1,(k _ f N).2 _ E⟩) (fun f h=>⟨(k _ f h).1,(k _ f h).2 _ E⟩)
end draws
end Bk
