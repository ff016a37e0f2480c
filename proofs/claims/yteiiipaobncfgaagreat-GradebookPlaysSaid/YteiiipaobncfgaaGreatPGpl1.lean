/- Texts that the proofs of GradebookPlays need. No condition. (Part 1 of 9.) -/
import Derived.Test.YteiiipaobncfgaaGreatRows
import Derived.LaidLaws
import Derived.Shelf.Slices.Clone
import Derived.Shelf.Lays2
import Derived.Shelf.Spec.SlicesInsertGrow
import Derived.Shelf.Slices.Delete
import Derived.Shelf.Slices.Equal
import Derived.Shelf.Lays
import Derived.Test.YteiiipaobncfgaaGreatProg
import Derived.WalkKit
import Derived.Orders
import Derived.OrdersHeld
import Derived.Lib.Hide
import Derived.Laws.AppendOwn
import Derived.IntWalk
import Derived.Lib.ItoaNum
import Derived.Laws.OwnMore
import Derived.Great.BuildSlice
import BkWalk
import Derived.Shelf.Small.Strs
import Derived.Shelf.Strconv.Itoa0
import Derived.Shelf.Strings.Search1
import Derived.Shelf.Strings.Prefix
import Derived.Ground.Names2Prog
import Derived.Lib.LazyBuf
import Derived.RangeFuncRecord
import Derived.RangeFuncLeaves
import Derived.RangeFuncSeq
import Derived.OrdersIn
import Derived.TacticsIn
import Derived.Lib.AtoiErrMem
import Derived.Lib.ConvBytes
import Derived.ArgAppend
import Derived.Laws.StructEq
import Derived.Maps.RangeRun
import Derived.Laws.Cover3
import Derived.Laws.Cover1
import Derived.Recover
import Derived.Laws.IdiomStrings
import Derived.ChangeArms
import Derived.ProofKit
import Derived.OpenShut
import Derived.Deep.DeepHandedRow
import Derived.ChangeMaps5
set_option linter.unusedSimpArgs false
set_option linter.unusedVariables false
set_option linter.defProp false
set_option maxRecDepth 100000
set_option maxHeartbeats 4000000
namespace Bk
abbrev wD := Go.World
abbrev lB := List UInt8
abbrev lV := List Go.Value
abbrev oA := Option Go.Addr
abbrev nP := Nat → Prop
end Bk
namespace Bk
abbrev fY:=@List.getElem?_eq_getElem
abbrev fZ:=@Go.Lib.hid
abbrev gC:=@List.take_succ_eq_append_getElem
abbrev gD:=@Bool.and_eq_true
abbrev gE:=@Option.some.injEq
abbrev gG:=@Go.IntWalk.i64_in
abbrev gH:=@List.length_cons
abbrev gI:=@Nat.zero_le
abbrev gJ:=@Option.some.inj
abbrev gK:=@List.getElem_mem
abbrev gL:=@List.take_length
abbrev gM:=@List.getElem?_eq_none
abbrev gN:=@List.getElem?_append_left
abbrev gO:=@Go.Sem.run_bind
abbrev gP:=@Nat.le_refl
abbrev gQ:=@Nat.lt_or_ge
abbrev gR:=@List.length_append
abbrev gT:=@List.mem_cons
abbrev gU:=@List.getElem?_append_right
abbrev gV:=@Nat.le_of_ble_eq_true
abbrev gW:=@List.drop_eq_getElem_cons
abbrev gX:=@List.getElem?_cons_zero
abbrev gY:=@List.getD_eq_getElem?_getD
abbrev hH:=@Go.Sem.run_pure
abbrev iB:=@List.mem_singleton
abbrev iD:=@List.getElem?_map
abbrev iE:=@List.length_take
abbrev iF:=@Go.Value.slice.injEq
abbrev iG:=@List.append_assoc
abbrev iI:=@List.mem_of_getElem?
abbrev iJ:=@List.all_eq_true
abbrev iL:=@Nat.eq_of_beq_eq_true
abbrev iM:=@List.length_nil
abbrev iN:=@Array.getElem?_eq_none
abbrev iO:=@List.map_cons
abbrev iP:=@List.cons.injEq
abbrev iR:=@Nat.zero_add
abbrev iS:=@Bool.false_eq_true
abbrev iT:=@List.take_append_drop
abbrev iU:=@List.take_succ_cons
abbrev iW:=@List.getElem?_set_ne
abbrev iX:=@List.not_mem_nil
abbrev iY:=@Go.Calls.mono
abbrev iZ:=@List.drop_eq_nil_of_le
abbrev jA:=@List.mem_append
abbrev jB:=@List.mem_cons_of_mem
abbrev jC:=@Array.getD_eq_getD_getElem?
abbrev jD:=@Array.length_toList
abbrev jE:=@List.map_append
abbrev jF:=@Go.World.putObj_heap_other
abbrev jG:=@Array.getElem?_eq_getElem
abbrev jH:=@List.mem_cons_self
abbrev jJ:=@List.length_map
abbrev jK:=@Nat.add_eq_zero_iff
abbrev jL:=@Go.Result.andThen_ok
abbrev jN:=@Nat.lt_of_lt_of_le
abbrev jO:=@List.mem_of_mem_take
abbrev jP:=@Bool.or_eq_true
abbrev jR:=@Nat.le_trans
abbrev jS:=@List.isEmpty_iff
abbrev jT:=@List.getElem?_set_self
abbrev jU:=@List.eq_nil_or_concat
abbrev jV:=@Bool.eq_iff_iff
abbrev jX:=@List.cons_append
abbrev jZ:=@List.flatMap_cons
abbrev kg:=@List.drop_zero
abbrev kh:=@List.flatMap_append
abbrev ki:=@List.drop_succ_cons
abbrev kj:=@List.length_set
abbrev kp:=@Nat.sub_self
abbrev kq:=@List.eq_nil_of_length_eq_zero
abbrev ku:=@List.ext_getElem?
abbrev kv:=@List.nil_append
abbrev kx:=@List.take_of_length_le
abbrev ky:=@List.length_drop
abbrev kz:=@List.take_zero
abbrev kA:=@Array.getElem?_modify
abbrev kB:=@List.length_singleton
abbrev kD:=@List.concat_eq_append
abbrev kE:=@Nat.add_mul
abbrev kF:=@Nat.mul_le_mul_right
abbrev kG:=@List.flatten_cons
abbrev kH:=@Nat.add_zero
abbrev kI:=@Nat.mul_one
abbrev kJ:=@Go.Region.noSelect_spec
abbrev kK:=@Go.DataW.trod_struct
abbrev kL:=@Go.Addr.mk.injEq
abbrev kO:=@Option.some_ne_none
abbrev kP:=@Nat.sub_zero
abbrev kU:=@List.getElem_cons_succ
abbrev kW:=@List.set_append_right
abbrev kY:=@List.reverse_cons
abbrev kZ:=@Bool.and_assoc
abbrev lf:=@Go.DataW.trod_string
abbrev lg:=@List.map_nil
abbrev lh:=@List.any_eq_true
abbrev lj:=@List.getElem_map
abbrev lk:=@List.drop_length
abbrev lm:=@List.flatten_append
abbrev ln:=@Go.Region.free_spec
abbrev lp:=@Prod.mk.injEq
abbrev lq:=@Array.setIfInBounds_comm
abbrev lr:=@Option.map_some
abbrev lu:=@Nat.min_eq_left
abbrev lw:=@List.append_nil
abbrev lx:=@List.getElem?_cons_succ
abbrev ly:=@Bool.not_eq_true'
abbrev lz:=@Option.map_eq_some_iff
abbrev lA:=@List.mem_range'_1
abbrev lC:=@Nat.lt_trichotomy
abbrev lD:=@Array.getElem?_append
abbrev lE:=@List.singleton_append
abbrev lF:=@List.all_cons
abbrev lG:=@Nat.add_assoc
abbrev lH:=@List.findIdx?_append
abbrev lI:=@List.length_dropLast
abbrev lJ:=@List.all_append
abbrev lK:=@Nat.zero_mul
abbrev lL:=@Nat.add_comm
abbrev lM:=@Go.Result.ok.injEq
abbrev lN:=@List.mem_range
abbrev lO:=@Array.ext'
abbrev lP:=@List.getElem?_take
abbrev lQ:=@List.set_cons_zero
abbrev lR:=@List.findIdx?_cons
abbrev lS:=@List.size_toArray
abbrev lT:=@Go.DataW.trod_int
abbrev lU:=@Option.bind_some
abbrev lW:=@List.map_toArray
abbrev lX:=@Nat.add_sub_cancel_left
abbrev lY:=@Option.getD_some
abbrev lZ:=@List.getElem?_set_self'
abbrev l3:=@Ne.symm
abbrev l5:=@Array.getElem?_toList
abbrev l6:=@Go.MapKept.run_getObj_map
abbrev l7:=@List.replicate_succ'
abbrev l8:=@List.replicate_succ
abbrev l9:=@List.getD_cons_zero
abbrev mb:=@List.contains_cons
abbrev md:=@Nat.ble_eq
abbrev me:=@Nat.eq_zero_or_pos
abbrev mf:=@Go.MapKept.run_findKey
abbrev mg:=@Go.RowKit.Below.output
abbrev mh:=@List.all_eq_false
abbrev mi:=@List.find?_append
abbrev mj:=@Option.map_eq_map
abbrev mm:=@List.ext_getElem
abbrev mo:=@Go.DataW.trod_slice
abbrev mp:=@Nat.mul_le_mul
abbrev mq:=@Go.RowKit.Below.tape
end Bk
open Go.Proofs.Tryz
open Or renaming inl->gA,inr->gB
open Go.Result renaming andThen->gF
open Go renaming Calls->gS
open Except renaming bind->gZ
open Go.Value renaming slice->iA,int->iV,ownBlock->kw
open Nat renaming blt->iC,ble->jW,beq->kk
open Go.Region renaming ready->iH,binds->jM
open List renaming replicate->iK,range->jQ
open Go.DataW renaming trod->iQ
open Go.Builtin renaming zeroCells->jI
open Go.Addr renaming add->jY
open Go.Oper renaming wp->km
open Array renaming replicate->kn
open Go.IntKind renaming wrap->kN
open Go.Sem renaming run->kV
namespace Bk
abbrev AC:= @if_neg
abbrev AT:= @if_pos
end Bk
namespace Go.Proofs
open Go.Shelf
def Tryz.lays2n15_ren:Go.Shelf.Ren:=⟨fun|15=>88|n=>n,fun|22=>43|3=>3|4=>4|n=>n,fun|n=>n⟩
def Tryz.lays2n15:Go.Proofs.Lays2.n15 prog Tryz.lays2n15_ren:={
 mixed:=by kernel_rfl
 f15:=func88.trans (congrArg some (by kernel_rfl))
 t3:=underlying3
 a3:=isAgg3
 z3:=sizeOf3
 v3:=zeroValue3
 t4:=underlying4
 a4:=isAgg4
 z4:=sizeOf4
 v4:=zeroValue4
 t22:=underlying43
 a22:=isAgg43
 z22:=sizeOf43
 v22:=zeroValue43
 i3:=by kernel_rfl }
def Tryz.lays2n21_ren:Go.Shelf.Ren:=⟨fun|21=>247|27=>248|28=>249|35=>250|39=>251|n=>n,fun|22=>43|3=>3|4=>4|0=>0|n=>n,fun|n=>n⟩
def Tryz.lays2n21:Go.Proofs.Lays2.n21 prog Tryz.lays2n21_ren:={
 mixed:=by kernel_rfl
 f21:=func247.trans (congrArg some (by kernel_rfl))
 f27:=func248.trans (congrArg some (by kernel_rfl))
 f28:=func249.trans (congrArg some (by kernel_rfl))
 f35:=func250.trans (congrArg some (by kernel_rfl))
 f39:=func251.trans (congrArg some (by kernel_rfl))
 t0:=underlying0
 a0:=isAgg0
 z0:=sizeOf0
 v0:=zeroValue0
 t3:=underlying3
 a3:=isAgg3
 z3:=sizeOf3
 v3:=zeroValue3
 t4:=underlying4
 a4:=isAgg4
 z4:=sizeOf4
 v4:=zeroValue4
 t22:=underlying43
 a22:=isAgg43
 z22:=sizeOf43
 v22:=zeroValue43
 i3:=by kernel_rfl }
def Tryz.lays2n23_ren:Go.Shelf.Ren:=⟨fun|23=>246|n=>n,fun|22=>43|3=>3|4=>4|0=>0|n=>n,fun|n=>n⟩
def Tryz.lays2n23:Go.Proofs.Lays2.n23 prog Tryz.lays2n23_ren:={
 mixed:=by kernel_rfl
 f23:=func246.trans (congrArg some (by kernel_rfl))
 t0:=underlying0
 a0:=isAgg0
 z0:=sizeOf0
 v0:=zeroValue0
 t3:=underlying3
 a3:=isAgg3
 z3:=sizeOf3
 v3:=zeroValue3
 t4:=underlying4
 a4:=isAgg4
 z4:=sizeOf4
 v4:=zeroValue4
 t22:=underlying43
 a22:=isAgg43
 z22:=sizeOf43
 v22:=zeroValue43
 i3:=by kernel_rfl }
def Tryz.laysn111_ren:Go.Shelf.Ren:=⟨fun|111=>124|n=>n,fun|28=>43|3=>3|4=>4|0=>0|n=>n,fun|n=>n⟩
def Tryz.laysn111:Go.Proofs.Lays.n111 prog Tryz.laysn111_ren:={
 mixed:=by kernel_rfl
 f111:=func124.trans (congrArg some (by kernel_rfl))
 t0:=underlying0
 a0:=isAgg0
 z0:=sizeOf0
 v0:=zeroValue0
 t3:=underlying3
 a3:=isAgg3
 z3:=sizeOf3
 v3:=zeroValue3
 t4:=underlying4
 a4:=isAgg4
 z4:=sizeOf4
 v4:=zeroValue4
 t28:=underlying43
 a28:=isAgg43
 z28:=sizeOf43
 v28:=zeroValue43 }
end Go.Proofs
namespace Bk
open Go Go.RowKit
def Ext (w w':wD):Prop:=Below w.heap.size w w'
def Ext.refl (w:wD):Ext w w:=Below.refl _ _
def Ext.trans {a b c:wD} (h:Ext a b) (k:Ext b c):Ext a c:=Below.trans h (Below.mono k h.size)
def Ext.alloc {a w:wD} (h:Ext a w) (o:Obj):Ext a (w.alloc o):=Below.alloc h h.size o
def Ext.drew {a w:wD} (h:Ext a w):Ext a w.drew:=Below.drew h
def Ext.size {a w:wD} (h:Ext a w):a.heap.size<=w.heap.size:=Below.size h
def Ext.block {a w:wD} (h:Ext a w) {k:Nat} (G:k<a.heap.size):w.heap[k]? = a.heap[k]? := Below.block h k G
def Ext.cells {a w:wD} (h:Ext a w):∀b o,b<a.heap.size->w.cell? ⟨b,o,none⟩=a.cell? ⟨b,o,none⟩:=λb o G=>Below.cell (p:=⟨b,o,none⟩) h G
def Ci {w:wD} {p:Addr} {v:Value} (h:w.cell? p=some v):p.block<w.heap.size:=by
 unfold World.cell? at h;rcases gQ p.block w.heap.size with G|G
 . exact G
 . simp [iN G] at h
def Ext.keep {a w:wD} (h:Ext a w) {b o:Nat} {v:Value} (G:a.cell? ⟨b,o,none⟩=some v):w.cell? ⟨b,o,none⟩=some v:=
 (h.cells b o (Ci G)).trans G
inductive Nd where
 | mk (kind num:Int) (name:lB) (kids:List Nd)
def Nd.kind:Nd->Int | .mk k _ _ _=>k
def Nd.num:Nd->Int | .mk _ n _ _=>n
def Nd.name:Nd->lB | .mk _ _ s _=>s
def Nd.kids:Nd->List Nd | .mk _ _ _ l=>l
abbrev str (l:lB):Value:=.string ⟨l.toArray⟩
abbrev Nd.val (t:Nd) (a:oA) (c:Nat):Value:=.agg #[.int .u8 t.kind,.int .i64 t.num,str t.name,.slice a t.kids.length c]
abbrev Nd.cells (t:Nd) (a:oA) (c:Nat):lV:=[.int .u8 t.kind,.int .i64 t.num,str t.name,.slice a t.kids.length c]
mutual
def Nd.sits (S:nP) (w:wD):Nd->oA->Prop
 | .mk _ _ _ l,a=>rowSits S w l a
def rowSits (S:nP) (w:wD):List Nd->oA->Prop
 | [],_=>True
 | t::r,a=> ∃b o a' c,a=some ⟨b,o,none⟩/\S b/\w.cell? ⟨b,o,none⟩=some (.int .u8 t.kind)/\w.cell? ⟨b,o+1,none⟩=some (.int .i64 t.num) /\
  w.cell? ⟨b,o+2,none⟩=some (str t.name)/\w.cell? ⟨b,o+3,none⟩=some (.slice a' t.kids.length c)/\t.sits S w a'/\rowSits S w r (some ⟨b,o+4,none⟩)
end
mutual
def Nd.wf:Nd->Prop
 | .mk k n s l=>0<=k/\k<=255 /\ -9223372036854775808<=n/\n<=9223372036854775807/\s.length<=9223372036854775807/\l.length<=9223372036854775807/\CO l
def CO:List Nd->Prop
 | []=>True
 | t::r=>t.wf/\CO r
end
mutual
def Nd.size:Nd->Nat
 | .mk _ _ _ l=>1+AY l
def AY:List Nd->Nat
 | []=>0
 | t::r=>t.size+AY r
end
def BN {l:List Nd} (h:CO l):∀t∈l,t.wf:=by
 induction l with
 | nil=>simp
 | cons x r M=>
  simp only [CO] at h;intro t G;rcases gT.1 G with rfl|G
  . exact h.1
  . exact M h.2 t G
def D4 {l:List Nd} {t:Nd} (h:t∈l):t.size<=AY l:=by
 induction l with
 | nil=>cases h
 | cons x r G=>
  simp only [AY];rcases gT.1 h with rfl|h
  . omega
  . have:=G h;omega
def Nd.size_pos (t:Nd):1<=t.size:=by cases t;simp [Nd.size]
def FC {S:nP} {w:wD} {l:List Nd} {a:oA} (h:rowSits S w l a) {i:Nat} {t:Nd} (G:l[i]? = some t) :
 ∃b o M c,a=some ⟨b,o,none⟩/\S b/\w.cell? ⟨b,o+i*4,none⟩=some (.int .u8 t.kind)/\w.cell? ⟨b,o+i*4+1,none⟩=some (.int .i64 t.num) /\
  w.cell? ⟨b,o+i*4+2,none⟩=some (str t.name)/\w.cell? ⟨b,o+i*4+3,none⟩=some (.slice M t.kids.length c)/\t.sits S w M:=by
 induction l generalizing i a with
 | nil=>simp at G
 | cons x r U=>
  simp only [rowSits] at h;obtain ⟨b,o,M,c,rfl,V,X,Y,Z,h3,hs,hr⟩:=h;cases i with
  | zero=>
   simp at G;subst G;exact ⟨b,o,M,c,rfl,V,X,Y,Z,h3,hs⟩
  | succ i=>
   obtain ⟨b',o',N,c',O,r⟩:=U hr (by simpa using G);simp only [gE,kL] at O;obtain ⟨rfl,rfl,-⟩:=O;refine ⟨b,o,N,c',rfl,r.1,?_⟩;rw [show o+(i+1)*4=o+4+i*4 from by omega];exact r.2
mutual
def Nd.sits_mono {S S':nP} {w w':wD} (hS:∀b,S b->S' b) (hc:∀b o v,S b->w.cell? ⟨b,o,none⟩=some v->w'.cell? ⟨b,o,none⟩=some v) :
 ∀(t:Nd) (a:oA),t.sits S w a->t.sits S' w' a
 | .mk _ _ _ l,a,h=>by
  simp only [Nd.sits] at h ⊢;exact E0 hS hc l a h
def E0 {S S':nP} {w w':wD} (hS:∀b,S b->S' b) (hc:∀b o v,S b->w.cell? ⟨b,o,none⟩=some v->w'.cell? ⟨b,o,none⟩=some v) :
 ∀(l:List Nd) (a:oA),rowSits S w l a->rowSits S' w' l a
 | [],_,_=>by simp [rowSits]
 | t::r,a,h=>by
  simp only [rowSits] at h ⊢;obtain ⟨b,o,a',c,rfl,hb,h0,h1,h2,h3,hs,hr⟩:=h;exact ⟨b,o,a',c,rfl,hS b hb,hc _ _ _ hb h0,hc _ _ _ hb h1,hc _ _ _ hb h2,hc _ _ _ hb h3,Nd.sits_mono hS hc t a' hs,E0 hS hc r _ hr⟩
end
def rowSits.ext {S:nP} {w w':wD} {l:List Nd} {a:oA} (h:rowSits S w l a) (e:Ext w w'):rowSits S w' l a:=
 E0 (λ_ h=>h) (λ_ _ _ _ G=>e.keep G) l a h
def Nd.sits.ext {S:nP} {w w':wD} {t:Nd} {a:oA} (h:t.sits S w a) (e:Ext w w'):t.sits S w' a:=
 Nd.sits_mono (λ_ h=>h) (λ_ _ _ _ G=>e.keep G) t a h
structure Fr (S:nP) (w w':wD):Prop where
 os:w'.os=w.os
 tape:w'.tape=w.tape
 output:w'.output=w.output
 size:w.heap.size<=w'.heap.size
 block:∀k,k<w.heap.size -> ¬S k->w'.heap[k]? = w.heap[k]?
def Fr.refl (S:nP) (w:wD):Fr S w w:=⟨rfl,rfl,rfl,gP _,λ_ _ _=>rfl⟩
def Fr.trans {S:nP} {a b c:wD} (h:Fr S a b) (k:Fr S b c):Fr S a c:=
 ⟨k.os.trans h.os,k.tape.trans h.tape,k.output.trans h.output,jR h.size k.size,λi G M=>(k.block i (jN G h.size) M).trans (h.block i G M)⟩
def Fr.of_ext {S:nP} {a b:wD} (h:Ext a b):Fr S a b:=⟨Below.os h,mq h,mg h,Below.size h,λk G _=>Below.block h k G⟩
def Fr.setCell {S:nP} {a w:wD} (h:Fr S a w) (p:Addr) (v:Value) (G:S p.block\/a.heap.size<=p.block):Fr S a (w.setCell p v):=by
 refine ⟨h.os,h.tape,h.output,?_,λk N M=>?_⟩
 . have:(w.setCell p v).heap.size=w.heap.size:=by simp [World.setCell]
   rw [this];exact h.size
 . rw [Below.heap_setCell _ _ _ _ (by rintro rfl;rcases G with G|G;exact M G;omega)];exact h.block k N M
def Fr.cells {S:nP} {a w:wD} (h:Fr S a w):∀b o,b<a.heap.size -> ¬S b->w.cell? ⟨b,o,none⟩=a.cell? ⟨b,o,none⟩:=
 λb _ G M=>World.cell?_of_block (w:=a) (h.block b G M)
def Fr.keep {S:nP} {a w:wD} (h:Fr S a w) {b o:Nat} {v:Value} (M:¬S b) (G:a.cell? ⟨b,o,none⟩=some v):w.cell? ⟨b,o,none⟩=some v:=
 (h.cells b o (Ci G) M).trans G
def rowSits.fr {S T:nP} {w w':wD} {l:List Nd} {a:oA} (h:rowSits S w l a) (e:Fr T w w') (G:∀b,S b -> ¬T b):rowSits S w' l a:=
 E0 (λ_ h=>h) (λb _ _ M N=>e.keep (G b M) N) l a h
def Nd.sits.fr {S T:nP} {w w':wD} {t:Nd} {a:oA} (h:t.sits S w a) (e:Fr T w w') (G:∀b,S b -> ¬T b):t.sits S w' a:=
 Nd.sits_mono (λ_ h=>h) (λb _ _ M N=>e.keep (G b M) N) t a h
abbrev Sl:=List (Nat×Value)
def look:Sl->Nat->Option Value
 | [],_=>none
 | (k,v)::r,d=>match kk k d with
  | true=>some v
  | false=>look r d
def ev (l:Sl):Operand->Option Value
 | .tmp t=>look l t
 | .const v=>some v
 | .global g=>some (.pointer (some ⟨g,0,none⟩))
 | .func f=>some (.func (.func f) #[] #[])
def evs (l:Sl):List Operand->Option lV
 | []=>some []
 | x::r=>match ev l x with
  | none=>none
  | some v=>match evs l r with
   | none=>none
   | some vs=>some (v::vs)
structure Env (n:Nat) (l:Sl) (a:Act):Prop where
 size:a.tmps.size=n
 defers:a.defers=[]
 has:∀d v,look l d=some v->a.tmps.getD d undef=v
def Env.ev {n:Nat} {l:Sl} {a:Act} (h:Env n l a) {x:Operand} {v:Value} (G:ev l x=some v):a.eval x=v:=by
 cases x with
 | tmp t=>exact h.has t v G
 | const c=>simpa [Bk.ev,Act.eval] using G
 | global g=>simpa [Bk.ev,Act.eval] using G
 | func f=>simpa [Bk.ev,Act.eval] using G
def Env.evs {n:Nat} {l:Sl} {a:Act} (h:Env n l a):∀ {xs:List Operand} {vs:lV},evs l xs=some vs->xs.map a.eval=vs
 | [],vs,G=>by simp [Bk.evs] at G;simp [G]
 | x::r,vs,G=>by
  simp only [Bk.evs] at G;cases h1:Bk.ev l x with
  | none=>simp [h1] at G
  | some v=>
   cases h2:Bk.evs l r with
   | none=>simp [h1,h2] at G
   | some us=>
    simp [h1,h2] at G;subst G;simp [h.ev h1,Env.evs h h2]
def Hs (k:Nat) (v:Value) (l:Sl) (d:Nat):look ((k,v)::l) d=if k=d then some v else look l d:=by
 simp only [look];by_cases h:k=d
 . subst h;simp
 . have:kk k d=false:=by
    cases hb:kk k d
    . rfl
    . exact absurd (iL hb) h
   rw [this,AC h]
def Env.put {n:Nat} {l:Sl} {a:Act} (h:Env n l a) {d:Nat} (N:iC d n=true) (v:Value):Env n ((d,v)::l) (a.put (some d) v):=by
 have M:d<n:=gV N;refine ⟨by simp [Act.put,h.size],by simp [Act.put,h.defers],λk u G=>?_⟩;rw [Hs] at G;simp only [Act.put];by_cases e:d=k
 . subst e;simp at G;subst G;simp [h.size,M]
 . rw [AC e] at G;have:=h.has k u G;simpa [Array.getElem?_setIfInBounds_ne e] using this
def SG (m l:Sl):Prop:= ∀d v,look m d=some v->look l d=some v
def Env.sub {n:Nat} {m l:Sl} {a:Act} (h:Env n l a) (G:SG m l):Env n m a:=⟨h.size,h.defers,λd v M=>h.has d v (G d v M)⟩
def BE {l:Sl}:SG [] l:=λ_ _ h=>by simp [look] at h
def An {m l:Sl} {d:Nat} {v:Value} (h:look l d=some v) (r:SG m l):SG ((d,v)::m) l:=λk u G=>by
 rw [Hs] at G;by_cases e:d=k
 . subst e;simp at G;subst G;exact h
 . rw [AC e] at G;exact r k u G
def BO {m l:Sl} {d:Nat} {v G:Value} (h:look l d=some G) (e:G=v) (r:SG m l):SG ((d,v)::m) l:=An (e▸h) r
def CW (P:Program) (n:Nat) (c:Code) (Q:Exit->Act->wD->Prop) (l:Sl) (w:wD):Prop:= ∀a,Env n l a->c.wp P Q a w
def LW (P:Program) (n:Nat) (ops:Array Oper) (Q:Exit->Act->wD->Prop) (os:List Oper) (l:Sl) (w:wD):Prop:= ∀a,Env n l a->wpList P ops Q os a w
def QW (n:Nat) (Q:Exit->Act->wD->Prop) (e:Exit) (l:Sl) (w:wD):Prop:= ∀a,Env n l a->Q e a w
section code
variable {P:Program} {n:Nat} {Q:Exit->Act->wD->Prop} {l:Sl} {w:wD}
def CW.sub {c:Code} {m:Sl} (h:CW P n c Q m w) (G:SG m l):CW P n c Q l w:=λa M=>h a (M.sub G)
def Aj {x y:Code} (h:CW P n x (Exit.then (y.wp P Q) Q) l w):CW P n (.seq x y) Q l w:=λa G=>wp_seq (h a G)
def Z6 {x y:Code} (I:Act->wD->Prop) (h:CW P n x (Exit.then I Q) l w) (k:∀a w,I a w->y.wp P Q a w):CW P n (.seq x y) Q l w:=λa G=>
 wp_seq (Code.wp_mono (λe a w q=>by cases e<;>first|exact k _ _ q|exact q) (h a G))
def Ai {y:Code} (h:CW P n y Q l w):QW n (Exit.then (y.wp P Q) Q) .normal l w:=h
def TC {I:Act->wD->Prop} (h:∀a,Env n l a->I a w):QW n (Exit.then I Q) .normal l w:=h
def At {K:Act->wD->Prop} (h:QW n Q .ret l w):QW n (Exit.then K Q) .ret l w:=h
def Ay {K:Act->wD->Prop} {i:Nat} (h:QW n Q (.exit i) l w):QW n (Exit.then K Q) (.exit i) l w:=h
def Am (h:QW n Q .normal l w):CW P n .skip Q l w:=λa G=>wp_skip (h a G)
def BF {i:Nat} (h:QW n Q (.exit i) l w):CW P n (.exit i) Q l w:=λa G=>wp_exit (h a G)
def AU (h:QW n Q .ret l w):CW P n .ret Q l w:=λa G=>wp_ret (h a G)
def As {i:Nat} {c:Code} (h:CW P n c (Exit.inBlock i Q) l w):CW P n (.block i c) Q l w:=λa G=>wp_block (h a G)
def Ah {i:Nat} (h:QW n Q .normal l w):QW n (Exit.inBlock i Q) .normal l w:=h
def AJ {i:Nat} (h:QW n Q .ret l w):QW n (Exit.inBlock i Q) .ret l w:=h
def AS {i:Nat} (h:QW n Q .normal l w):QW n (Exit.inBlock i Q) (.exit i) l w:=λa G=>by simp only [Exit.inBlock,if_true];exact h a G
def Bq {c:Operand} {x y:Code} (M:ev l c=some (.bool true)) (h:CW P n x Q l w):CW P n (.cond c x y) Q l w:=λa G=>wp_cond_true (G.ev M) (h a G)
def AO {c:Operand} {x y:Code} (M:ev l c=some (.bool false)) (h:CW P n y Q l w):CW P n (.cond c x y) Q l w:=λa G=>wp_cond_false (G.ev M) (h a G)
def FD {c:Operand} {x y:Code} {b:Bool} (G:ev l c=some (.bool b)) (M:b=true->CW P n x Q l w) (N:b=false->CW P n y Q l w):CW P n (.cond c x y) Q l w:=
 λa h=>wp_cond_split (h.ev G) (λe=>M e a h) (λe=>N e a h)
def AA {c:Operand} {x y:Code} {p:Prop} [Decidable p] (h:ev l c=some (.bool (decide p))) (G:p->CW P n x Q l w) (M:¬p->CW P n y Q l w):CW P n (.cond c x y) Q l w:=
 FD h (λe=>G (of_decide_eq_true e)) (λe=>M (of_decide_eq_false e))
def Rm {c:Operand} {x y:Code} {p:Prop} [Decidable p] (G:ev l c=some (.bool (decide p))) (M:p) (h:CW P n x Q l w):CW P n (.cond c x y) Q l w:=
 AA G (λ_=>h) (λe=>absurd M e)
def M4 {c:Operand} {x y:Code} {p:Prop} [Decidable p] (G:ev l c=some (.bool (decide p))) (M:¬p) (h:CW P n y Q l w):CW P n (.cond c x y) Q l w:=
 AA G (λe=>absurd e M) (λ_=>h)
def GX {c:Operand} {x y:Code} {b:Bool} (G:ev l c=some (.bool b)) (M:b=true) (h:CW P n x Q l w):CW P n (.cond c x y) Q l w:=Bq (M▸G) h
def GY {c:Operand} {x y:Code} {b:Bool} (G:ev l c=some (.bool b)) (M:b=false) (h:CW P n y Q l w):CW P n (.cond c x y) Q l w:=AO (M▸G) h
def Ak {M:Nat} {G:List Oper} (h:LW P n G.toArray Q G l w):CW P n (.region M G.toArray false) Q l w:=λa N=>wp_region_lit (h a N)
def AF {ι:Type} {c:Code} (L:ι->Sl) (I:ι->wD->Prop) (μ:ι->Nat) (X:ι) (hs:SG (L X) l) (h₀:I X w)
 (M:∀x w,I x w->CW P n c (Exit.then (λO w'=> ∃y,Env n (L y) O/\I y w'/\μ y<μ x) Q) (L x) w):CW P n (.loop c) Q l w:=by
 intro a ha;intro b k cs;have key:∀m x a w,μ x=m->I x w->Env n (L x) a ->
  ∃e O w',Q e O w'/\Arrives P (lone (b.at a (.code c::.inLoop c::k)) cs w) b k cs e O w':=by
  intro m
  induction m using Nat.strongRecOn with
  | _ m ih=>
   intro x a w hm hI hE;obtain ⟨e,U,V,G,h⟩:=M x w hI a hE b (.inLoop c::k) cs;cases e with
   | normal=>
    obtain ⟨y,Y,Z,aa⟩:=G;obtain ⟨e₂,a₂,w₂,ab,N⟩:=ih (μ y) (hm▸aa) y U V rfl Z Y;exact ⟨e₂,a₂,w₂,ab,.of_steps (Steps.trans h (.one step_inLoop)) N⟩
   | exit id=>exact ⟨_,U,V,G,.pass (x:=.inLoop c) rfl (λ_ _=>.inl (by simp)) h⟩
   | goto l=>exact ⟨_,U,V,G,.pass (x:=.inLoop c) rfl (λ_ _=>.inl (by simp)) h⟩
   | ret=>exact ⟨_,U,V,G,.pass (x:=.inLoop c) rfl (λ_ _=>.inl (by simp)) h⟩
   | panic ch=>exact ⟨_,U,V,G,.pass (x:=.inLoop c) rfl (λ_ _=>.inl (by simp)) h⟩
   | outgrown=>exact ⟨_,U,V,G,h⟩
 obtain ⟨e,O,w',G,h⟩:=key (μ X) X a w rfl h₀ (ha.sub hs);exact ⟨e,O,w',G,.of_steps (.one step_loop) h⟩
def Av {ι:Type} {L:ι->Sl} {I:ι->wD->Prop} {μ:ι->Nat} {x:ι} (y:ι) (G:SG (L y) l) (h:I y w) (M:μ y<μ x) :
 QW n (Exit.then (λN w'=> ∃y,Env n (L y) N/\I y w'/\μ y<μ x) Q) .normal l w:=λ_ O=>⟨y,O.sub G,h,M⟩
end code
def Gr:Nat->lV->Sl
 | _,[]=>[]
 | i,v::r=>(i,v)::Gr (i+1) r
def F6 (d:Nat) (v:Value):∀(vs:lV) (i:Nat),look (Gr i vs) d=some v->i<=d/\vs[d-i]? = some v
 | [],_,h=>by simp [Gr,look] at h
 | u::r,i,h=>by
  simp only [Gr] at h;rw [Hs] at h;by_cases e:i=d
  . subst e;simp at h;subst h;simp
  . rw [AC e] at h;obtain ⟨M,G⟩:=F6 d v r (i+1) h;refine ⟨by omega,?_⟩;rw [show d-i=(d-(i+1))+1 from by omega];simpa using G
def Ad {P:Program} {f:FuncId} {fn:Func} {c:Code} {args:lV} {n:Nat} {w:wD} {R:Ending->wD->Prop}
 (M:P.funcs[f]? = some fn) (X:fn.ntmps=n) (N:fn.body=some c) (O:jW args.length n=true) (h:CW P n c (bodyPost P fn R) (Gr 0 args) w):Calls P f args.toArray w R:=by
 refine calls_of_wp M N (h _ ?_);have U:args.length<=n:=by simpa using O
 refine ⟨by simp;omega,rfl,λd v V=>?_⟩;obtain ⟨-,G⟩:=F6 d v args 0 V;simp only [kP] at G;have:d<args.length:=by
  rcases gQ d args.length with h|h
  . exact h
  . rw [gM h] at G;cases G
 rw [fY this] at G;simp only [gE] at G;simp [lD,this,G]
section ends
variable {P:Program} {fn:Func} {n:Nat} {R:Ending->wD->Prop} {l:Sl} {w:wD}
def EA (h:fn.results = #[]) (G:R (.returned (.tuple #[])) w):QW n (bodyPost P fn R) .ret l w:=λa M=>⟨M.defers,_,results_none h _ _ _,G⟩
def Bi (h:fn.results = #[]) (G:R (.returned (.tuple #[])) w):QW n (bodyPost P fn R) .normal l w:=λa M=>⟨M.defers,_,results_none h _ _ _,G⟩
def AW {t:Nat} {v:Value} (h:fn.results = #[.tmp t]) (M:look l t=some v) (N:R (.returned v) w):QW n (bodyPost P fn R) .ret l w:=λa G=>
 ⟨G.defers,_,results_tmp h _ _ _,by rw [G.has t v M];exact N⟩
def Bc {t u:Nat} {v x:Value} (h:fn.results = #[.tmp t,.tmp u]) (M:look l t=some v) (N:look l u=some x) (O:R (.returned (.tuple #[v,x])) w):QW n (bodyPost P fn R) .ret l w:=λa G=>
 ⟨G.defers,_,results_tmp2 h _ _ _,by rw [G.has t v M,G.has u x N];exact O⟩
end ends
inductive Sk where
 | int (k:IntKind)|bool|str|slice (e:Nat)|struct (fs:List (Nat×Nat))|array (len e:Nat)|ptr (e:Nat)|map (k e:Nat)|func|iface
abbrev Tab:=List (Nat×Sk×Nat)
variable {o i sz:Nat} {y:Operand} {a:Array Oper} {v:Value} {vs:lV} {N:Option Value->wD->Prop} {c:Array Edge} {h:Bool} {S:nP} {Q:Exit->Act->wD->Prop} {w w' w0:wD} {G:List Oper} {g:Prop} {P:Program} {e:String} {p:Addr} {R:Ending->wD->Prop} {M:List (Nat×Nat)} {f:FuncId} {S2:wD->Prop} {j:Int} {s:Sk} {k:IntKind} {op:Op} {l:Sl} {oi:Oper}
def AB:Tab->Nat->Option (Sk×Nat)
 | [],_=>none
 | p::r,t=>match kk p.1 t with
  | true=>some p.2
  | false=>AB r t
def Sk.ok (P:Program) (t:Nat):Sk->Prop
 | .int k=>P.underlying t=some (.int k)
 | .bool=>P.underlying t=some .bool
 | .str=>P.underlying t=some .string
 | .slice e=>P.underlying t=some (.slice e)
 | .array n e=>P.underlying t=some (.array n e)
 | .ptr e=>P.underlying t=some (.pointer e)
 | .map k e=>P.underlying t=some (.map k e)
 | .func=> ∃a b c,P.underlying t=some (.func a b c)
 | .iface=> ∃a,P.underlying t=some (.interface a)
 | .struct fs=> ∃gs,P.underlying t=some (.struct gs)/\gs.size=fs.length /\ ∀(i o ft:Nat),fs[i]? = some (o,ft) -> ∃g:Field,gs[i]? = some g/\g.offset=o/\g.type=ft /\ ∃j:TypeInfo,P.info? ft=some j/\j.size≠0
def Sk.check (P:Program) (t:Nat):Sk->Bool
 | .int k=>match P.underlying t with|some (.int k')=>decide (k=k')|_=>false
 | .bool=>match P.underlying t with|some .bool=>true|_=>false
 | .str=>match P.underlying t with|some .string=>true|_=>false
 | .slice e=>match P.underlying t with|some (.slice e')=>kk e' e|_=>false
 | .array n e=>match P.underlying t with|some (.array n' e')=>kk n' n&&kk e' e|_=>false
 | .ptr e=>match P.underlying t with|some (.pointer e')=>kk e' e|_=>false
 | .map k e=>match P.underlying t with|some (.map k' e')=>kk k' k&&kk e' e|_=>false
 | .func=>match P.underlying t with|some (.func _ _ _)=>true|_=>false
 | .iface=>match P.underlying t with|some (.interface _)=>true|_=>false
 | .struct fs=>match P.underlying t with
  | some (.struct gs)=>kk gs.size fs.length&&(jQ fs.length).all λi=>match fs[i]?,gs[i]? with
   | some (o,ft),some g=>kk g.offset o&&kk g.type ft&&match P.info? ft with|some j=> !Nat.beq j.size 0|none=>false
   | _,_=>false
  | _=>false
def Sk.ok_of_check {t:Nat} (h:s.check P t=true):s.ok P t:=by
 cases s with
 | struct V=>
  simp only [Sk.check] at h;split at h
  . rename_i Y Z;simp only [gD,iJ,lN] at h;refine ⟨Y,Z,iL h.1,λi o ft N=>?_⟩;have O:i<V.length:=by
     rcases gQ i V.length with U|U
     . exact U
     . rw [gM U] at N;cases N
    have G:=h.2 i O;rw [N] at G;split at G
    . rename_i o' aa g X e2;simp only [gE,lp] at X;obtain ⟨rfl,rfl⟩:=X;simp only [gD] at G;refine ⟨g,e2,iL G.1.1,iL G.1.2,?_⟩;have M:=G.2;split at M
      . rename_i j hj;exact ⟨j,hj,λe=>by rw [e] at M;simp at M⟩
      . cases M
    . cases G
  . cases h
 | func=>
  simp only [Sk.check] at h;split at h
  . exact ⟨_,_,_,by assumption⟩
  . cases h
 | iface=>
  simp only [Sk.check] at h;split at h
  . exact ⟨_,by assumption⟩
  . cases h
 | int k=>simp only [Sk.check] at h;split at h<;>simp_all [Sk.ok]
 | bool=>simp only [Sk.check] at h;split at h<;>simp_all [Sk.ok]
 | str=>simp only [Sk.check] at h;split at h<;>simp_all [Sk.ok]
 | slice e=>simp only [Sk.check] at h;split at h<;>simp_all [Sk.ok]
 | ptr e=>simp only [Sk.check] at h;split at h<;>simp_all [Sk.ok]
 | array n e=>simp only [Sk.check] at h;split at h<;>simp_all [Sk.ok]
 | map n e=>simp only [Sk.check] at h;split at h<;>simp_all [Sk.ok]
structure TyOk (P:Program) (t:Nat) (s:Sk) (sz:Nat):Prop where
 under:s.ok P t
 info:∃i,P.info? t=some i/\i.size=sz
def TabOk (P:Program) (tab:Tab):Prop:= ∀t s sz,AB tab t=some (s,sz)->TyOk P t s sz
def Tab.check (P:Program) (tab:Tab):Bool:=tab.all λp=>p.2.1.check P p.1&&match P.info? p.1 with|some i=>kk i.size p.2.2|none=>false
def TD {tab:Tab} {t:Nat} {x:Sk×Nat} (h:AB tab t=some x):(t,x)∈tab:=by
 induction tab with
 | nil=>simp [AB] at h
 | cons p r G=>
  simp only [AB] at h;split at h
  . rename_i M;have:=iL M;simp only [gE] at h;subst h this;exact jH
  . exact jB _ (G h)
def TabOk.of_check {tab:Tab} (h:tab.check P=true):TabOk P tab:=λt s sz M=>by
 have:=iJ.1 h _ (TD M);simp only [gD] at this;refine ⟨Sk.ok_of_check this.1,?_⟩;have G:=this.2;split at G
 . rename_i i N;exact ⟨i,N,iL G⟩
 . cases G
def Bm (P:Program) (n:Nat) (l:Sl) (S:wD->Prop) (op:Op) (ty:TypeId) (v:Value):Prop:=
 ∀a w dst pos after g,Env n l a->S w->(execOp a.eval ⟨dst,op,ty,pos,after,g⟩).run P w = .ok (.value v) w
section pur
variable {n:Nat} {S:wD->Prop} {ty:TypeId} {tab:Tab}
def Aw {x:Operand} (h:ev l x=some v):Bm P n l S (.move x) ty v:=λa w G pos after g M _=>by
 simp [execOp,M.ev h]
def Gs {x:Operand} (h:ev l x=some v):Bm P n l S (.assign x) ty v:=λa w G pos after g M _=>by
 simp [execOp,M.ev h]
def AD {t:Nat} {d:TypeDesc} (h:P.underlying t=some d) (w:wD):(underlying t).run P w = .ok d w:=by
 simp [underlying,program,kV,h,bind,Sem.bind,pure]
def Vm {t:Nat} {i:TypeInfo} (h:P.info? t=some i) (w:wD):(Go.sizeOf t).run P w = .ok i.size w:=by
 simp [Go.sizeOf,typeInfo,program,kV,h,bind,Sem.bind,pure]
def B0 {t:Nat} (h:TyOk P t s sz) (w:wD):(Go.sizeOf t).run P w = .ok sz w:=by
 obtain ⟨i,G,M⟩:=h.info;simp [Go.sizeOf,typeInfo,program,kV,G,bind,Sem.bind,pure,M]
def A1 {x:Operand} {s f b h:Nat} (T:TabOk P tab) (O:ev l x=some (.pointer (some ⟨b,o,none⟩)))
 (U:AB tab s=some (.struct M,sz)) (V:M[f]? = some (h,i)):Bm P n l S (.fieldAddr s x f) ty (.pointer (some ⟨b,o+h,none⟩)):=λa w X pos after g Y _=>by
 obtain ⟨gs,Z,-,h2⟩:=(T _ _ _ U).under;obtain ⟨fd,h3,h4,h5,j,h6,h7⟩:=h2 f h i V;have e:(Instr.fieldAt s (.pointer (some ⟨b,o,none⟩)) f).run P w = .ok (.pointer (some ⟨b,o+h,none⟩)) w:=by
  simp only [Instr.fieldAt,gO,AD Z,gF,h3,Instr.sureAddr,hH,fieldPlace,h5,h4];simp only [Vm h6,h7,if_false,hH,jY];by_cases N:h=0
  . subst N;simp
  . simp [N]
 simp [execOp,Y.ev O,e]
def Cs {x:Operand} {s f b:Nat} {h:List (Nat×Nat)} (T:TabOk P tab) (M:ev l x=some (.pointer (some ⟨b,o,none⟩)))
 (N:AB tab s=some (.struct h,sz)) (O:h[f]? = some (0,i)):Bm P n l S (.fieldAddr s x f) ty (.pointer (some ⟨b,o,none⟩)):=A1 T M N O
def Sk.agg:Sk->Bool
 | .struct _ | .array _ _=>true
 | _=>false
def Cq {t:Nat} (h:TyOk P t s sz) (w:wD):(isAgg t).run P w = .ok s.agg w:=by
 have:=h.under;cases s with
 | struct M=>obtain ⟨N,G,-⟩:=this;simp [isAgg,AD G,gF,Sk.agg]
 | func=>obtain ⟨_,_,_,G⟩:=this;simp [isAgg,AD G,gF,Sk.agg]
 | iface=>obtain ⟨_,G⟩:=this;simp [isAgg,AD G,gF,Sk.agg]
 | _=>simp [isAgg,AD this,gF,Sk.agg]
def Ar {x:Operand} {t:Nat} (T:TabOk P tab) (h:AB tab t=some (s,sz)) (G:s.agg=false) (M:ev l x=some (.pointer (some p)))
 (N:∀w,S w->w.cell? p=some v):Bm P n l S (.load t x) ty v:=λa w O pos after g U V=>by
 have e:(Instr.loadAt t (.pointer (some p))).run P w = .ok v w:=by
  simp only [Instr.loadAt,Instr.sureAddr,gO,hH,gF,loadVar,Cq (T _ _ _ h),G];simp [load,kV,N w V]
 simp [execOp,U.ev M,e]
def Row (w:wD) (p:Addr) (vs:lV):Prop:= ∀i v,vs[i]? = some v->w.cell? (p.add i)=some v
def Ct (h:Row w p vs):(loadCells p vs.length).run P w = .ok vs.toArray w:=
 run_loadCells_list w p vs h
def Ht {x:Operand} {t:Nat} (T:TabOk P tab) (h:AB tab t=some (s,sz)) (G:s.agg=true) (M:ev l x=some (.pointer (some p)))
 (N:vs.length=sz) (O:∀w,S w->Row w p vs):Bm P n l S (.load t x) ty (.agg vs.toArray):=λa w U pos after g V X=>by
 have e:(Instr.loadAt t (.pointer (some p))).run P w = .ok (.agg vs.toArray) w:=by
  simp only [Instr.loadAt,Instr.sureAddr,gO,hH,gF,loadVar,Cq (T _ _ _ h),G,if_true,B0 (T _ _ _ h)];rw [<-N,Ct (O w X)]
 simp [execOp,V.ev M,e]
def Bt {x:Operand} {t:Nat} (T:TabOk P tab) (h:AB tab t=some (s,sz)) (G:s.agg=true) (M:ev l x=some (.pointer (some p)))
 (N:∀w,S w->Row w p vs) (O:vs.length=sz):Bm P n l S (.load t x) ty (.agg vs.toArray):=Ht T h G M O N
def AK {x i:Operand} {t e h b len cap:Nat} (T:TabOk P tab) (N:AB tab t=some (.slice e,sz)) (O:AB tab e=some (s,h))
 (U:ev l x=some (.slice (some ⟨b,o,none⟩) len cap)) (V:ev l i=some (.int k j)) (X:0<=j) (Y:j<len):Bm P n l S (.indexAddr t x i) ty (.pointer (some ⟨b,o+j.toNat*h,none⟩)):=λa w Z pos after g G _=>by
 have hu:P.underlying t=some (.slice e):=(T _ _ _ N).under;have e:(Instr.indexAt t (.slice (some ⟨b,o,none⟩) len cap) (.int k j)).run P w = .ok (.pointer (some ⟨b,o+j.toNat*h,none⟩)) w:=by
  simp only [Instr.indexAt,asIntOf,gO,hH,gF,AD hu];simp only [X,Y,and_self,if_true,gO,B0 (T _ _ _ O),gF,hH,jY];by_cases M:j.toNat*h=0
  . simp [M]
  . simp [M]
 simp [execOp,G.ev U,G.ev V,e]
def Bw {op:BinOp} {t:Nat} {x:Operand} {h:IntKind} {a b:Int}:(eqGuard op t x y (.int k a) (.int h b)).run P w = .ok () w:=by
 unfold eqGuard;cases op<;>simp
def EB {op:BinOp} {t:Nat} {x:Operand} {a b:ByteArray}:(eqGuard op t x y (.string a) (.string b)).run P w = .ok () w:=by
 unfold eqGuard;cases op<;>simp
def FE {α:Type} [BEq α] [LawfulBEq α] [DecidableEq α] (a b:α):(a==b)=decide (a=b):=by
 rw [jV];simp
section AX
variable {x:Operand} {t t':Nat} {a b c:Int}
def K7 (G:ev l x=some (.int k a)) (M:ev l y=some (.int k b)) (N:k.wrap (a+b)=c):Bm P n l S (.binOp .add t x y t') ty (.int k c):=λa w O pos after g h _=>by
 subst N;simp [execOp,h.ev G,h.ev M,Bw,binOp,Op.intArith]
def AL (G:ev l x=some (.int k a)) (M:ev l y=some (.int k b)) (N:k.wrap (a-b)=c):Bm P n l S (.binOp .sub t x y t') ty (.int k c):=λa w O pos after g h _=>by
 subst N;simp [execOp,h.ev G,h.ev M,Bw,binOp,Op.intArith]
def Hu (G:ev l x=some (.int k a)) (M:ev l y=some (.int k b)) (N:k.wrap (a*b)=c):Bm P n l S (.binOp .mul t x y t') ty (.int k c):=λa w O pos after g h _=>by
 subst N;simp [execOp,h.ev G,h.ev M,Bw,binOp,Op.intArith]
def XW (G:ev l x=some (.int k a)) (M:ev l y=some (.int k b)):Bm P n l S (.binOp .eql t x y t') ty (.bool (decide (a=b))):=λa w N pos after g h _=>by
 simp [execOp,h.ev G,h.ev M,Bw,binOp,Op.intCmp,FE]
def XX (G:ev l x=some (.int k a)) (M:ev l y=some (.int k b)):Bm P n l S (.binOp .neq t x y t') ty (.bool (decide (a≠b))):=λa w N pos after g h _=>by
 simp [execOp,h.ev G,h.ev M,Bw,binOp,Op.intCmp,bne,FE]
def XY (G:ev l x=some (.int k a)) (M:ev l y=some (.int k b)):Bm P n l S (.binOp .lss t x y t') ty (.bool (decide (a<b))):=λa w N pos after g h _=>by
 simp [execOp,h.ev G,h.ev M,Bw,binOp,Op.intCmp]
def XZ (G:ev l x=some (.int k a)) (M:ev l y=some (.int k b)):Bm P n l S (.binOp .leq t x y t') ty (.bool (decide (a<=b))):=λa w N pos after g h _=>by
 simp [execOp,h.ev G,h.ev M,Bw,binOp,Op.intCmp]
def X6 (G:ev l x=some (.int k a)) (M:ev l y=some (.int k b)):Bm P n l S (.binOp .gtr t x y t') ty (.bool (decide (b<a))):=λa w N pos after g h _=>by
 simp [execOp,h.ev G,h.ev M,Bw,binOp,Op.intCmp]
def X8 (G:ev l x=some (.int k a)) (M:ev l y=some (.int k b)):Bm P n l S (.binOp .geq t x y t') ty (.bool (decide (b<=a))):=λa w N pos after g h _=>by
 simp [execOp,h.ev G,h.ev M,Bw,binOp,Op.intCmp]
end AX
def Gt (a:lB):(⟨a.toArray⟩:ByteArray).toList=a:=by
 simp [ByteArray.toList_eq]
section strs
variable {x:Operand} {t t':Nat} {a b:lB}
def Vn (G:ev l x=some (str a)) (M:ev l y=some (str b)):Bm P n l S (.binOp .eql t x y t') ty (.bool (decide (a=b))):=λ_ w N pos after g h _=>by
 simp only [execOp,h.ev G,h.ev M,gO,EB,gF,binOp,Op.stringOp,hH,Gt,FE]
def Vo (M:ev l x=some (str a)) (N:ev l y=some (str b)):Bm P n l S (.binOp .neq t x y t') ty (.bool (decide (a≠b))):=λ_ w O pos after g G _=>by
 simp only [execOp,G.ev M,G.ev N,gO,EB,gF,binOp,Op.stringOp,hH,Gt];congr 3;by_cases h:a=b<;>simp [h]
def Ya {q:Bool} (h:ev l x=some (.bool q)):Bm P n l S (.unOp .not t x) ty (.bool !q):=λ_ w G pos after g M _=>by
 simp [execOp,M.ev h,Op.unary]
def B3 {c:Operand} {q:Bool} {u:Value} (G:ev l c=some (.bool q)) (M:ev l x=some u) (N:q=true):Bm P n l S (.pick c x y) ty u:=λ_ w O pos after g h _=>by
 subst N;simp [execOp,h.ev G,h.ev M,asBool]
def Bu {c:Operand} {q:Bool} (G:ev l c=some (.bool q)) (M:ev l y=some v) (N:q=false):Bm P n l S (.pick c x y) ty v:=λ_ w O pos after g h _=>by
 subst N;simp [execOp,h.ev G,h.ev M,asBool]
def E1 {c:Operand} {p:Prop} [Decidable p] {u:Value} (h:ev l c=some (.bool (decide p))) (G:ev l x=some u) (M:p):Bm P n l S (.pick c x y) ty u:=B3 h G (decide_eq_true M)
def FF {c:Operand} {p:Prop} [Decidable p] (h:ev l c=some (.bool (decide p))) (G:ev l y=some v) (M:¬p):Bm P n l S (.pick c x y) ty v:=Bu h G (decide_eq_false M)
def O7 (h:ev l x=some (.tuple vs.toArray)) (G:vs[i]? = some v):Bm P n l S (.extract x i) ty v:=λ_ w M pos after g N _=>by
 simp [execOp,N.ev h,Instr.extract,G]
def O8 (T:TabOk P tab) {pt:Bool} (h:AB tab t=some (.str,sz)) (G:ev l x=some (str a)):Bm P n l S (.call ⟨.builtin .len,#[x],#[t]⟩) ty (.int .i64 a.length):=λ_ w M pos after g N _=>by
 have O:P.underlying t=some .string:=(T _ _ _ h).under;have U:(⟨a.toArray⟩:ByteArray).size=a.length:=by simp [ByteArray.size]
 simp [execOp,resolve,invoke,builtin,Builtin.len_,N.ev G,AD O,gF,goInt,U]
def DM (T:TabOk P tab) {e:Nat} {p:oA} {len cap:Nat} (h:AB tab t=some (.slice e,sz)) (G:ev l x=some (.slice p len cap)):Bm P n l S (.call ⟨.builtin .len,#[x],#[t]⟩) ty (.int .i64 len):=λ_ w M pos after g N _=>by
 have O:P.underlying t=some (.slice e):=(T _ _ _ h).under;simp [execOp,resolve,invoke,builtin,Builtin.len_,N.ev G,AD O,gF,goInt]
end strs
end pur
def Blk (w:wD) (b:Nat) (vs:lV):Prop:= ∃ty,w.heap[b]? = some (.cells vs.toArray ty (0,0))
def Blk.lt {b:Nat} (h:Blk w b vs):b<w.heap.size:=by
 obtain ⟨ty,h⟩:=h;rcases gQ b w.heap.size with G|G
 . exact G
 . rw [iN G] at h;cases h
def Blk.cell {w:wD} {b i:Nat} {vs:lV} {v:Value} (h:Blk w b vs) (G:vs[i]? = some v):w.cell? ⟨b,i,none⟩=some v:=by
 obtain ⟨ty,h⟩:=h;simp [World.cell?,h,G]
def Blk.row {b:Nat} (h:Blk w b vs):Row w ⟨b,0,none⟩ vs:=λi v G=>by
 have:(⟨b,0,none⟩:Addr).add i=⟨b,i,none⟩:=by unfold jY;by_cases M:i=0<;>simp [M]
 rw [this];exact h.cell G
def Blk.free {b:Nat} (h:Blk w b vs):w.frozen? ⟨b,o,none⟩=false:=by
 obtain ⟨ty,h⟩:=h;simp [World.frozen?,h]
def Blk.ext {b:Nat} (h:Blk w b vs) (e:Ext w w'):Blk w' b vs:=by
 have G:=h.lt;obtain ⟨ty,h⟩:=h;exact ⟨ty,by rw [e.block G];exact h⟩
def Blk.fr {b:Nat} (h:Blk w b vs) (e:Fr S w w') (G:¬S b):Blk w' b vs:=by
 have M:=h.lt;obtain ⟨ty,h⟩:=h;exact ⟨ty,by rw [e.block b M G];exact h⟩
def Blk.set {w:wD} {b i:Nat} {vs:lV} (h:Blk w b vs) (v:Value):Blk (w.setCell ⟨b,i,none⟩ v) b (vs.set i v):=by
 obtain ⟨ty,h⟩:=h;refine ⟨ty,?_⟩;simp [World.setCell,kA,h]
def Row.at {w:wD} {b o i:Nat} {vs:lV} {v:Value} (h:Row w ⟨b,o,none⟩ vs) (G:vs[i]? = some v):w.cell? ⟨b,o+i,none⟩=some v:=by
 have:=h i v G;have e:(⟨b,o,none⟩:Addr).add i=⟨b,o+i,none⟩:=by unfold jY;by_cases M:i=0<;>simp [M]
 rwa [e] at this
def Row.at0 {b:Nat} (h:Row w ⟨b,o,none⟩ vs) (G:vs[0]? = some v):w.cell? ⟨b,o,none⟩=some v:=h.at G
def TE (p:Addr) (i:Nat):(p.add i).block=p.block:=by unfold jY;split<;>rfl
def TF (h:w.cell? p=some v):p.spot=none:=by
 unfold World.cell? at h;split at h
 . cases hs:p.spot with
   | none=>rfl
   | some q=>simp [hs] at h
 . cases h
def Row.ext (h:Row w p vs) (e:Ext w w'):Row w' p vs:=λi v M=>by
 have G:=h i v M;have N:=Ci G;rw [Below.cell e N];exact G
def Row.fr (h:Row w p vs) (e:Fr S w w') (M:¬S p.block):Row w' p vs:=λi v N=>by
 have G:=h i v N;have O:=Ci G;rw [World.cell?_of_block (w:=w) (e.block _ O (by rw [TE];exact M))];exact G
structure New (w w1:wD) (b:Nat) (vs:lV):Prop where
 pos:b=w.heap.size
 blk:Blk w1 b vs
 ext:Ext w w1
 size:w1.heap.size=b+1
def Eg (w:wD) (vs:lV) (ty:TypeId):New w (w.alloc (.cells vs.toArray ty (0,0))) w.heap.size vs:=
 ⟨rfl,⟨ty,by show (w.heap.push _)[w.heap.size]? = _;simp⟩,(Ext.refl w).alloc _,by show (w.heap.push _).size=_;simp⟩
def Ba:lV->Nat->lV->lV
 | vs,_,[]=>vs
 | vs,o,u::r=>Ba (vs.set o u) (o+1) r
structure Put (w w1:wD) (b:Nat) (vs:lV):Prop where
 blk:Blk w1 b vs
 fr:Fr (· = b) w w1
 size:w1.heap.size=w.heap.size
def Value.one:Value->Bool
 | .agg _ | .tuple _=>false
 | _=>true
def M5 {b:Nat} (h:Blk w b vs) (G:o<vs.length) (M:Value.one v=true) {α:Type} (k:Sem α) :
 (Sem.store .plain ⟨b,o,none⟩ v k).run P w=k.run P (w.setCell ⟨b,o,none⟩ v):=by
 have N:=h.cell (fY G);have O:=h.free (o:=o);cases v<;>first|(simp [Value.one] at M;done)|simp [kV,N,O]
def Fi {P:Program}:∀(us:lV) (w:wD) (b o i:Nat) (vs:lV),Blk w b vs->o+i+us.length<=vs.length->us.all Value.one=true ->
 ∃w1,(storeCells ⟨b,o,none⟩ us i).run P w = .ok () w1/\Put w w1 b (Ba vs (o+i) us)
 | [],w,b,o,i,vs,h,_,_=>⟨w,rfl,h,Fr.refl _ _,rfl⟩
 | u::r,w,b,o,i,vs,h,N,G=>by
  simp only [gH] at N;simp only [lF,gD] at G;have O:(⟨b,o,none⟩:Addr).add i=⟨b,o+i,none⟩:=by unfold jY;by_cases U:i=0<;>simp [U]
  have e:(storeCells ⟨b,o,none⟩ (u::r) i).run P w=(storeCells ⟨b,o,none⟩ r (i+1)).run P (w.setCell ⟨b,o+i,none⟩ u):=by
   simp only [storeCells,store,O,bind,Sem.bind];exact M5 h (by omega) G.1 _
  obtain ⟨w1,V,M⟩:=Fi (P:=P) r _ b o (i+1) _ (h.set (i:=o+i) u) (by simp;omega) G.2;refine ⟨w1,by rw [e,V],M.blk,((Fr.refl (· = b) w).setCell ⟨b,o+i,none⟩ u (gA rfl)).trans M.fr,?_⟩;rw [M.size];simp [World.setCell]
def Bd {o:Oper} {y:Nat->Option Bool} (h:o.guard=none):Region.wanted o y=true:=by unfold Region.wanted;rw [h]
section seqs
variable {P:Program} {n:Nat} {ops:Array Oper} {Q:Exit->Act->wD->Prop} {rest:List Oper} {l:Sl} {w:wD} {tab:Tab}
 {d:Nat} {ty:TypeId} {pos:String} {after:Array Edge}
def Al (h:QW n Q .normal l w):LW P n ops Q [] l w:=h
def CB (G:Bm P n l (λx=>x=w) op ty v) (M:iC d n=true) (k:LW P n ops Q rest ((d,v)::l) w) :
 LW P n ops Q (⟨some d,op,ty,pos,after,none⟩::rest) l w:=λa h=>by
 unfold wpList;rw [AT (Bd rfl)];left;unfold km;rw [G a w _ _ _ _ h rfl];exact k _ (h.put M v)
def BM (ops:Array Oper) (j:Nat):Option Nat:=(ops.toList[j]?).bind (·.dst)
def F7 {n:Nat} {l:Sl} {a:Act} (M:Env n l a) {ops:Array Oper} {j:Nat} {b:Bool} {o:Oper} (O:o.guard=some (j,h)) (U:BM ops j=some i) (V:iC i n=true) (X:look l i=some (.bool b)) :
 Region.wanted o (yielded ops a.tmps)=(b==h):=by
 have N:=M.has i _ X;have G:i<a.tmps.size:=by rw [M.size];exact gV V
 have Y:a.tmps[i]? = some (.bool b):=by
  rw [jC,jG G] at N;rw [jG G];simpa using N
 have Z:(ops[j]?).bind (·.dst)=some i:=by simpa [BM] using U
 unfold Region.wanted yielded;simp only [O,Z,lU,Y];cases b<;>cases h<;>rfl
def A7 {j:Nat} {b:Bool} (M:BM ops j=some o) (N:iC o n=true) (O:look l o=some (.bool b)) (U:(b==h)=false) (V:iC d n=true)
 (k:LW P n ops Q rest ((d,undef)::l) w):LW P n ops Q (⟨some d,op,ty,pos,after,some (j,h)⟩::rest) l w:=λa G=>by
 unfold wpList;rw [F7 G rfl M N O,U];exact k _ (G.put V undef)
def AP {j:Nat} {b:Bool} (M:BM ops j=some o) (N:iC o n=true) (O:look l o=some (.bool b)) (U:(b==h)=true)
 (k:LW P n ops Q (⟨some d,op,ty,pos,after,none⟩::rest) l w):LW P n ops Q (⟨some d,op,ty,pos,after,some (j,h)⟩::rest) l w:=λa G=>by
 have:=k a G;unfold wpList at this ⊢;rw [AT (by rw [F7 G rfl M N O,U])];rw [AT (Bd rfl)] at this;exact this
section guards
variable {j dj:Nat} {p:Prop} [Decidable p]
def Bh (h:BM ops j=some dj) (G:iC dj n=true) (M:look l dj=some (.bool (decide p))) (N:¬p)
 (k:LW P n ops Q (⟨some d,op,ty,pos,after,none⟩::rest) l w):LW P n ops Q (⟨some d,op,ty,pos,after,some (j,false)⟩::rest) l w:=AP h G M (by simp [N]) k
def BB (h:BM ops j=some dj) (G:iC dj n=true) (M:look l dj=some (.bool (decide p))) (N:p) (O:iC d n=true)
 (k:LW P n ops Q rest ((d,undef)::l) w):LW P n ops Q (⟨some d,op,ty,pos,after,some (j,false)⟩::rest) l w:=A7 h G M (by simp [N]) O k
end guards
def BG (P:Program) (n:Nat) (l:Sl) (op:Op) (ty:TypeId) (w:wD) (K:Option Value->wD->Prop):Prop:=
 ∀a dst pos after g (next:Act->wD->Prop) (Q:Exit->Act->wD->Prop),Env n l a->(∀v w',K (some v) w'->next (a.put dst v) w')->(∀w',K none w'->next (a.put dst undef) w')->(⟨dst,op,ty,pos,after,g⟩:Oper).wp P a w next Q
def Az {K:Option Value->wD->Prop} (M:BG P n l op ty w K) (N:iC d n=true) (k:∀v w1,K (some v) w1->LW P n ops Q rest ((d,v)::l) w1) (O:∀w1,¬K none w1) :
 LW P n ops Q (⟨some d,op,ty,pos,after,none⟩::rest) l w:=λa G=>by
 unfold wpList;rw [AT (Bd rfl)];left;exact M a _ _ _ _ _ _ G (λv w1 U=>k v w1 U _ (G.put N v)) (λw1 h=>absurd h (O w1))
def A9 {K:Option Value->wD->Prop} (M:BG P n l op ty w K) (k:∀v w1,K v w1->LW P n ops Q rest l w1) :
 LW P n ops Q (⟨none,op,ty,pos,after,none⟩::rest) l w:=λa G=>by
 unfold wpList;rw [AT (Bd rfl)];left;exact M a _ _ _ _ _ _ G (λv w1 N=>k _ w1 N _ G) (λw1 h=>k _ w1 h _ G)
end seqs
section does
variable {n:Nat} {tab:Tab} {ty:TypeId}
def ZK (w:wD) (vs:lV):Option Value->wD->Prop
 | some v,w1=> ∃b,v = .pointer (some ⟨b,0,none⟩)/\New w w1 b vs
 | none,_=>False
def GZ {x:Operand} {t:Nat} (hx:ev l x=some v) (hv:v.cells=vs.toArray):BG P n l (.box t x) ty w (ZK w vs):=λa dst pos after g next Q ha hn _=>by
 have e:(execOp a.eval ⟨dst,.box t x,ty,pos,after,g⟩).run P w = .ok (.value (.pointer (some ⟨w.heap.size,0,none⟩))) (w.alloc (.cells vs.toArray t (0,0))):=by
  simp [execOp,ha.ev hx,Instr.box,newVar,newRow,newObj,kV,hv,bind,Sem.bind,pure]
 unfold km;rw [e];exact hn _ _ ⟨_,rfl,Eg _ _ _⟩
abbrev Ee:=List (Nat×lV)
def Cj (P:Program):Ee->Prop
 | []=>True
 | p::r=>((P.info? p.1).bind (·.zero)).map Value.cells=some p.2.toArray/\Cj P r
def CC:Ee->Nat->Option lV
 | [],_=>none
 | p::r,t=>match kk p.1 t with
  | true=>some p.2
  | false=>CC r t
def EI {zt:Ee} (h:Cj P zt) {t:Nat} (G:CC zt t=some vs):∃i v,P.info? t=some i/\i.zero=some v/\v.cells=vs.toArray:=by
 induction zt with
 | nil=>simp [CC] at G
 | cons p r N=>
  simp only [CC] at G;split at G
  . rename_i O;have:=iL O;simp only [gE] at G;subst G this;have M:=h.1;cases hi:P.info? p.1 with
    | none=>rw [hi] at M;simp at M
    | some i=>
     rw [hi] at M;cases hz:i.zero with
     | none=>simp [hz] at M
     | some v=>exact ⟨i,v,rfl,hz,by simpa [hz] using M⟩
  . exact N h.2 G
def A3 {zt:Ee} {t:Nat} (Z:Cj P zt) (hz:CC zt t=some vs):BG P n l (.alloc t) ty w (ZK w vs):=λa dst pos after g next Q ha hn _=>by
 obtain ⟨i,v,h1,h2,h3⟩:=EI Z hz;have e:(execOp a.eval ⟨dst,.alloc t,ty,pos,after,g⟩).run P w = .ok (.value (.pointer (some ⟨w.heap.size,0,none⟩))) (w.alloc (.cells vs.toArray t (0,0))):=by
  simp [execOp,Instr.alloc,zeroValue,typeInfo,program,newVar,newRow,newObj,kV,h1,h2,h3,bind,Sem.bind,pure]
 unfold km;rw [e];exact hn _ _ ⟨_,rfl,Eg _ _ _⟩
def cO (w:wD) (b:Nat) (vs:lV):Option Value->wD->Prop
 | none,w1=>Put w w1 b vs
 | some _,_=>False
def DR {x:Operand} {t b:Nat} {us:lV} (T:TabOk P tab) (ht:AB tab t=some (s,sz)) (hx:ev l x=some (.pointer (some ⟨b,o,none⟩))) (hy:ev l y=some v)
 (hv:v.cells=us.toArray) (hl:us.length=sz) (h1:us.all Value.one=true) (hb:Blk w b vs) (ho:jW (o+us.length) vs.length=true):BG P n l (.store t x y) ty w (cO w b (Ba vs o us)):=λa dst pos after g next Q ha _ hn=>by
 obtain ⟨w1,e1,e2⟩:=Fi (P:=P) us w b o 0 vs hb (by simpa using ho) h1;have e:(execOp a.eval ⟨dst,.store t x y,ty,pos,after,g⟩).run P w = .ok .skip w1:=by
  have hcs:v.cells.toList=us:=by rw [hv]
  have hsz:v.cells.size=sz:=by rw [hv];simpa using hl
  simp only [execOp,ha.ev hx,ha.ev hy,Instr.storeAt,Instr.sureAddr,gO,hH,gF,storeVar,B0 (T _ _ _ ht),hsz,hcs,e1];simp only [ne_eq,not_true,if_false,gO,hH,gF,e1]
 unfold km;rw [e];exact hn _ e2
def BU (P:Program) (f:FuncId):Bool:=match P.funcs[f]? with
 | some fn=> !(fn.name == "runtime.NumGoroutine")&&fn.body.isSome
 | none=>false
def DA {args:Array Value} (G:BU P f=true) (w:wD):(callFunc f args).run P w = .ok (.enter f args) w:=by
 unfold BU at G
 split at G
 . rename_i fn M
   simp only [gD,ly,Option.isSome_iff_ne_none] at G
   have O:fn.body.isNone=false:=by cases h:fn.body<;>simp_all
   have N:fn.name ≠ "runtime.NumGoroutine" := by simpa using G.1
   simp [callFunc,program,kV,M,bind,Sem.bind,N,G.2,pure]
 . cases G
def ZL (R:Ending->wD->Prop):Option Value->wD->Prop
 | some v,w1=>R (.returned v) w1
 | none,_=>False
def AM {xs:List Operand} {tys:Array TypeId} (hb:BU P f=true) (hxs:evs l xs=some vs) (C:Calls P f vs.toArray w R)
 (hR:∀e w1,R e w1 -> ∃v,e = .returned v):BG P n l (.call ⟨.value (.func f),xs.toArray,tys⟩) ty w (ZL R):=λa dst pos after g next Q ha hn _=>by
 have hargs:xs.map a.eval=vs:=ha.evs hxs;have e:(execOp a.eval ⟨dst,.call ⟨.value (.func f),xs.toArray,tys⟩,ty,pos,after,g⟩).run P w = .ok (.enter f vs.toArray) w:=by
  simp only [execOp,resolve,Act.eval,Deferred.ofValue,gO,hH,gF,invoke];rw [DA hb];simp [<-hargs]
 unfold km;rw [e];refine iY C λe w1 h=>?_
 obtain ⟨v,rfl⟩:=hR e w1 h;exact hn v w1 h
def Bb {x:Operand} {fi ca:lV} {xs:List Operand} {tys:Array TypeId} (hb:BU P f=true) (hx:ev l x=some (.func (.func f) fi.toArray ca.toArray)) (hxs:evs l xs=some vs) (C:Calls P f (fi++vs++ca).toArray w R)
 (hR:∀e w1,R e w1 -> ∃v,e = .returned v):BG P n l (.call ⟨.value x,xs.toArray,tys⟩) ty w (ZL R):=λa dst pos after g next Q ha hn _=>by
 have hargs:xs.map a.eval=vs:=ha.evs hxs;have e:(execOp a.eval ⟨dst,.call ⟨.value x,xs.toArray,tys⟩,ty,pos,after,g⟩).run P w = .ok (.enter f (fi++vs++ca).toArray) w:=by
  simp only [execOp,resolve,ha.ev hx,Deferred.ofValue,gO,hH,gF,invoke];rw [DA hb];simp [<-hargs]
 unfold km;rw [e];refine iY C λe w1 h=>?_
 obtain ⟨v,rfl⟩:=hR e w1 h;exact hn v w1 h
end does
inductive Sch where
 | done
 | pure (i:Nat) (r:Sch)
 | fork (i:Nat) (x r:Sch)
 | none
def HW (P:Program) (ops:Array Oper) (Q:Exit->Act->wD->Prop) (S:wD->Prop):Sch->Act->wD->Prop
 | .done,a,w=>Q .normal a w
 | .pure i r,a,w=> ∃o v,ops.toList[i]? = some o/\YieldsIf P ops S o v a/\HW P ops Q S r (a.put o.dst v) w
 | .fork i x r,a,w=>wpOp P ops Q i (λa' w'=>S w'/\HW P ops Q S x a' w') a w/\HW P ops Q S r a w
 | .none,_,_=>True
def C5 (Q:Exit->Act->wD->Prop):Prop:= ∀d v c a w,Q (.panic c) (Act.put a d v) w->Q (.panic c) a w
def Ag {fn:Func}:C5 (bodyPost P fn R):=λd v c a w h=>by
 cases d<;>exact h
def Aa {K:Act->wD->Prop} (h:C5 Q):C5 (Exit.then K Q):=h
def Ae (h:C5 Q):C5 (Exit.inBlock i Q):=h
def DW (P:Program) (n:Nat) (ops:Array Oper) (Q:Exit->Act->wD->Prop) (S:wD->Prop) (s:Sch) (l:Sl) (w:wD):Prop:= ∀a,Env n l a->HW P ops Q S s a w
section draws
variable {P:Program} {n:Nat} {ops:Array Oper} {Q:Exit->Act->wD->Prop} {S:wD->Prop} {l:Sl} {w:wD}
 {d i:Nat} {ty:TypeId} {pos:String} {after:Array Edge} {r x:Sch}
end draws
def fI {n:Nat} {c:Operand} {x y:Code} (h:CW P n (.cond c x y) Q l w):CW P n (.cond c x y) Q l w:=h
def fJ {n d:Nat} {ty:TypeId} {rest:List Oper} (h:LW P n a Q (⟨some d,op,ty,e,c,none⟩::rest) l w):LW P n a Q (⟨some d,op,ty,e,c,none⟩::rest) l w:=h
def dX {n d:Nat} {ty:TypeId} {g:Nat×Bool} {rest:List Oper} (h:LW P n a Q (⟨some d,op,ty,e,c,some g⟩::rest) l w):LW P n a Q (⟨some d,op,ty,e,c,some g⟩::rest) l w:=h
attribute [irreducible] CW LW QW DW Bm BG
open Go.Proofs
variable {b t n dj:Nat} {x z:Operand} {zs:lV} {S:wD->Prop} {ty:TypeId} {p:Prop} {ps:List (Nat×Operand)} {T:nP} {xs:List Operand} {h:List (Nat×Nat)} {q:Bool} {j:Addr} {fn:Func} {y:Code}
def tab:Tab:=[(1,.func,1),
 (2,.int .i64,1),
 (3,.int .i64,1),
 (4,.bool,1),
 (5,.int .u8,1),
 (6,.int .u8,1),
 (7,.struct [(0,2),(1,3),(2,4),(3,6)],4),
 (8,.struct [(0,2),(1,3),(2,4),(3,6)],4),
 (9,.str,1),
 (10,.str,1),
 (11,.str,1),
 (12,.int .u64,1),
 (14,.struct [(0,9),(1,12)],2),
 (15,.ptr 301,1),
 (16,.ptr 304,1),
 (17,.ptr 312,1),
 (19,.struct [(0,17)],1),
 (20,.iface,1),
 (23,.slice 36,1),
 (24,.slice 5,1),
 (25,.slice 77,1),
 (26,.slice 116,1),
 (27,.slice 29,1),
 (29,.struct [(0,5),(1,3),(2,9),(3,27)],4),
 (31,.struct [(0,25),(1,26),(2,29)],6),
 (33,.struct [(0,3),(1,3),(2,3)],3),
 (34,.struct [(0,3),(1,3),(2,3)],3),
 (36,.struct [(0,9),(1,3),(2,3),(3,34),(6,31)],12),
 (37,.ptr 80,1),
 (38,.int .i64,1),
 (40,.func,1),
 (41,.func,1),
 (42,.slice 43,1),
 (43,.slice 3,1),
 (44,.struct [(0,42),(1,43),(2,43)],3),
 (45,.struct [(0,42),(1,43),(2,43)],3),
 (47,.struct [(0,4),(1,3),(2,45),(5,38)],6),
 (52,.func,1),
 (53,.slice 9,1),
 (57,.func,1),
 (58,.func,1),
 (59,.func,1),
 (60,.slice 65,1),
 (61,.slice 111,1),
 (62,.struct [(0,43),(1,61)],2),
 (63,.struct [(0,43),(1,61)],2),
 (65,.struct [(0,9),(1,9),(2,31)],8),
 (66,.func,1),
 (77,.struct [(0,9),(1,5),(2,3)],3),
 (78,.map 9 84,1),
 (80,.struct [(0,23),(1,78)],2),
 (83,.struct [(0,3),(1,4)],2),
 (84,.map 9 83,1),
 (88,.func,1),
 (91,.func,1),
 (93,.func,1),
 (94,.func,1),
 (98,.func,1),
 (99,.func,1),
 (100,.func,1),
 (101,.func,1),
 (102,.func,1),
 (104,.struct [(0,45),(3,3),(4,38)],5),
 (105,.func,1),
 (107,.func,1),
 (108,.func,1),
 (109,.func,1),
 (110,.struct [(0,9),(1,3),(2,4)],3),
 (111,.struct [(0,9),(1,3),(2,4)],3),
 (112,.func,1),
 (114,.func,1),
 (115,.struct [(0,9),(1,25),(2,29)],6),
 (116,.struct [(0,9),(1,25),(2,29)],6),
 (117,.func,1),
 (119,.func,1),
 (120,.func,1),
 (121,.func,1),
 (122,.func,1),
 (123,.func,1),
 (124,.int .u64,1),
 (125,.func,1),
 (126,.slice 165,1),
 (128,.slice 140,1),
 (131,.slice 135,1),
 (135,.struct [(0,3),(1,3)],2),
 (138,.map 9 4,1),
 (140,.struct [(0,3),(1,43),(2,38),(3,9)],4),
 (142,.func,1),
 (143,.func,1),
 (152,.int .i64,1),
 (160,.int .u32,1),
 (162,.int .u64,1),
 (164,.func,1),
 (165,.struct [(0,3),(1,43),(2,38),(3,9)],4),
 (166,.func,1),
 (170,.func,1),
 (173,.array 3 3,3),
 (175,.func,1),
 (176,.func,1),
 (178,.func,1),
 (179,.func,1),
 (181,.ptr 232,1),
 (184,.ptr 186,1),
 (185,.struct [(0,31),(6,181),(7,3),(8,3),(9,43)],10),
 (186,.struct [(0,31),(6,181),(7,3),(8,3),(9,43)],10),
 (188,.ptr 191,1),
 (189,.slice 1,1),
 (191,.struct [(0,189),(1,4)],2),
 (200,.int .u64,1),
 (204,.ptr 3,1),
 (210,.func,1),
 (216,.func,1),
 (220,.func,1),
 (224,.ptr 254,1),
 (227,.slice 234,1),
 (229,.struct [(0,25),(1,227),(2,3)],3),
 (230,.slice 229,1),
 (232,.struct [(0,229),(3,230),(4,224)],5),
 (234,.ptr 236,1),
 (236,.struct [(0,43)],1),
 (240,.struct [(0,38)],1),
 (245,.ptr 200,1),
 (250,.func,1),
 (254,.struct [(0,43),(1,43)],2),
 (255,.ptr 229,1),
 (270,.slice 164,1),
 (272,.struct [(0,29),(4,3),(5,4)],6),
 (273,.func,1),
 (281,.slice 272,1),
 (286,.func,1),
 (287,.func,1),
 (292,.ptr 43,1),
 (301,.struct [(0,17),(1,17),(2,17),(3,9)],4),
 (305,.int .u8,1),
 (306,.int .u8,1),
 (307,.func,1),
 (308,.ptr 5,1),
 (309,.int .i32,1),
 (310,.int .i32,1),
 (312,.struct [(0,12),(1,12),(2,160),(3,305),(4,5),(5,5),(6,306),(7,307),(8,308),(9,309),(10,310)],11)]
def zt:Ee:=[(1,[.nilFunc]),
 (2,[.int .i64 0]),
 (3,[.int .i64 0]),
 (4,[.bool false]),
 (5,[.int .u8 0]),
 (6,[.int .u8 0]),
 (7,[.int .i64 0,.int .i64 0,.bool false,.int .u8 0]),
 (8,[.int .i64 0,.int .i64 0,.bool false,.int .u8 0]),
 (9,[.string ⟨#[]⟩]),
 (10,[.string ⟨#[]⟩]),
 (11,[.string ⟨#[]⟩]),
 (12,[.int .u64 0]),
 (14,[.string ⟨#[]⟩,.int .u64 0]),
 (15,[.pointer none]),
 (16,[.pointer none]),
 (17,[.pointer none]),
 (19,[.pointer none]),
 (20,[.nilIface]),
 (23,[.slice none 0 0]),
 (24,[.slice none 0 0]),
 (25,[.slice none 0 0]),
 (26,[.slice none 0 0]),
 (27,[.slice none 0 0]),
 (29,[.int .u8 0,.int .i64 0,.string ⟨#[]⟩,.slice none 0 0]),
 (31,[.slice none 0 0,.slice none 0 0,.int .u8 0,.int .i64 0,.string ⟨#[]⟩,.slice none 0 0]),
 (33,[.int .i64 0,.int .i64 0,.int .i64 0]),
 (34,[.int .i64 0,.int .i64 0,.int .i64 0]),
 (36,[.string ⟨#[]⟩,.int .i64 0,.int .i64 0,.int .i64 0,.int .i64 0,.int .i64 0,.slice none 0 0,.slice none 0 0,.int .u8 0,.int .i64 0,.string ⟨#[]⟩,.slice none 0 0]),
 (37,[.pointer none]),
 (38,[.int .i64 0]),
 (40,[.nilFunc]),
 (41,[.nilFunc]),
 (42,[.slice none 0 0]),
 (43,[.slice none 0 0]),
 (44,[.slice none 0 0,.slice none 0 0,.slice none 0 0]),
 (45,[.slice none 0 0,.slice none 0 0,.slice none 0 0]),
 (47,[.bool false,.int .i64 0,.slice none 0 0,.slice none 0 0,.slice none 0 0,.int .i64 0]),
 (52,[.nilFunc]),
 (53,[.slice none 0 0]),
 (57,[.nilFunc]),
 (58,[.nilFunc]),
 (59,[.nilFunc]),
 (60,[.slice none 0 0]),
 (61,[.slice none 0 0]),
 (62,[.slice none 0 0,.slice none 0 0]),
 (63,[.slice none 0 0,.slice none 0 0]),
 (65,[.string ⟨#[]⟩,.string ⟨#[]⟩,.slice none 0 0,.slice none 0 0,.int .u8 0,.int .i64 0,.string ⟨#[]⟩,.slice none 0 0]),
 (66,[.nilFunc]),
 (77,[.string ⟨#[]⟩,.int .u8 0,.int .i64 0]),
 (78,[.map none]),
 (80,[.slice none 0 0,.map none]),
 (83,[.int .i64 0,.bool false]),
 (84,[.map none]),
 (88,[.nilFunc]),
 (91,[.nilFunc]),
 (93,[.nilFunc]),
 (94,[.nilFunc]),
 (98,[.nilFunc]),
 (99,[.nilFunc]),
 (100,[.nilFunc]),
 (101,[.nilFunc]),
 (102,[.nilFunc]),
 (104,[.slice none 0 0,.slice none 0 0,.slice none 0 0,.int .i64 0,.int .i64 0]),
 (105,[.nilFunc]),
 (107,[.nilFunc]),
 (108,[.nilFunc]),
 (109,[.nilFunc]),
 (110,[.string ⟨#[]⟩,.int .i64 0,.bool false]),
 (111,[.string ⟨#[]⟩,.int .i64 0,.bool false]),
 (112,[.nilFunc]),
 (114,[.nilFunc]),
 (115,[.string ⟨#[]⟩,.slice none 0 0,.int .u8 0,.int .i64 0,.string ⟨#[]⟩,.slice none 0 0]),
 (116,[.string ⟨#[]⟩,.slice none 0 0,.int .u8 0,.int .i64 0,.string ⟨#[]⟩,.slice none 0 0]),
 (117,[.nilFunc]),
 (119,[.nilFunc]),
 (120,[.nilFunc]),
 (121,[.nilFunc]),
 (122,[.nilFunc]),
 (123,[.nilFunc]),
 (124,[.int .u64 0]),
 (125,[.nilFunc]),
 (126,[.slice none 0 0]),
 (128,[.slice none 0 0]),
 (131,[.slice none 0 0]),
 (135,[.int .i64 0,.int .i64 0]),
 (138,[.map none]),
 (140,[.int .i64 0,.slice none 0 0,.int .i64 0,.string ⟨#[]⟩]),
 (142,[.nilFunc]),
 (143,[.nilFunc]),
 (152,[.int .i64 0]),
 (160,[.int .u32 0]),
 (162,[.int .u64 0]),
 (164,[.nilFunc]),
 (165,[.int .i64 0,.slice none 0 0,.int .i64 0,.string ⟨#[]⟩]),
 (166,[.nilFunc]),
 (170,[.nilFunc]),
 (173,[.int .i64 0,.int .i64 0,.int .i64 0]),
 (175,[.nilFunc]),
 (176,[.nilFunc]),
 (178,[.nilFunc]),
 (179,[.nilFunc]),
 (181,[.pointer none]),
 (184,[.pointer none]),
 (185,[.slice none 0 0,.slice none 0 0,.int .u8 0,.int .i64 0,.string ⟨#[]⟩,.slice none 0 0,.pointer none,.int .i64 0,.int .i64 0,.slice none 0 0]),
 (186,[.slice none 0 0,.slice none 0 0,.int .u8 0,.int .i64 0,.string ⟨#[]⟩,.slice none 0 0,.pointer none,.int .i64 0,.int .i64 0,.slice none 0 0]),
 (188,[.pointer none]),
 (189,[.slice none 0 0]),
 (191,[.slice none 0 0,.bool false]),
 (200,[.int .u64 0]),
 (204,[.pointer none]),
 (210,[.nilFunc]),
 (216,[.nilFunc]),
 (220,[.nilFunc]),
 (224,[.pointer none]),
 (227,[.slice none 0 0]),
 (229,[.slice none 0 0,.slice none 0 0,.int .i64 0]),
 (230,[.slice none 0 0]),
 (232,[.slice none 0 0,.slice none 0 0,.int .i64 0,.slice none 0 0,.pointer none]),
 (234,[.pointer none]),
 (236,[.slice none 0 0]),
 (240,[.int .i64 0]),
 (245,[.pointer none]),
 (250,[.nilFunc]),
 (254,[.slice none 0 0,.slice none 0 0]),
 (255,[.pointer none]),
 (270,[.slice none 0 0]),
 (272,[.int .u8 0,.int .i64 0,.string ⟨#[]⟩,.slice none 0 0,.int .i64 0,.bool false]),
 (273,[.nilFunc]),
 (281,[.slice none 0 0]),
 (286,[.nilFunc]),
 (287,[.nilFunc]),
 (292,[.pointer none]),
 (301,[.pointer none,.pointer none,.pointer none,.string ⟨#[]⟩]),
 (305,[.int .u8 0]),
 (306,[.int .u8 0]),
 (307,[.nilFunc]),
 (308,[.pointer none]),
 (309,[.int .i32 0]),
 (310,[.int .i32 0]),
 (312,[.int .u64 0,.int .u64 0,.int .u32 0,.int .u8 0,.int .u8 0,.int .u8 0,.int .u8 0,.nilFunc,.pointer none,.int .i32 0,.int .i32 0])]
def Ac:TabOk prog tab:=TabOk.of_check (by kernel_rfl)
def Ca:Cj prog zt:=by repeat (first|refine ⟨by kernel_rfl,?_⟩|exact trivial)
def mixed:prog.follows .mixedOrders=true:=by kernel_rfl
def New.put {us:lV} (h:New w w' b vs) (p:Put w' w0 b us):New w w0 b us:=
 ⟨h.pos,p.blk,⟨p.fr.os.trans (Below.os h.ext),p.fr.tape.trans (mq h.ext),p.fr.output.trans (mg h.ext),jR h.ext.size p.fr.size,
  λk M=>(p.fr.block k (jN M h.ext.size) (by have:=h.pos;omega)).trans (h.ext.block M)⟩,by rw [p.size,h.size]⟩
def Blk.put {c:Nat} {us:lV} (h:Blk w c us) (p:Put w w' b vs) (G:c≠b):Blk w' c us:=h.fr p.fr G
section seqs
variable {P:Program} {n:Nat} {ops:Array Oper} {Q:Exit->Act->wD->Prop} {rest:List Oper} {l:Sl} {w:wD} {tab:Tab}
 {d:Nat} {ty:TypeId} {pos:String} {after:Array Edge}
def Lg (G:ev l x=some v) (M:v.cells=vs.toArray) (N:iC d n=true)
 (k:∀b w1,New w w1 b vs->LW P n ops Q rest ((d,.pointer (some ⟨b,0,none⟩))::l) w1):LW P n ops Q (⟨some d,.box t x,ty,pos,after,none⟩::rest) l w:=
 Az (GZ G M) N (λ_ w1 ⟨b,h,hn⟩=>h▸k b w1 hn) (λ_ h=>h)
def G0 {zt:Ee} (Z:Cj P zt) (G:CC zt t=some vs) (M:iC d n=true)
 (k:∀b w1,New w w1 b vs->LW P n ops Q rest ((d,.pointer (some ⟨b,0,none⟩))::l) w1):LW P n ops Q (⟨some d,.alloc t,ty,pos,after,none⟩::rest) l w:=
 Az (A3 Z G) M (λ_ w1 ⟨b,h,hn⟩=>h▸k b w1 hn) (λ_ h=>h)
def Lh {us:lV} (T:TabOk P tab) (G:AB tab t=some (s,sz)) (M:ev l x=some (.pointer (some ⟨b,o,none⟩))) (N:ev l z=some v)
 (O:v.cells=us.toArray) (U:us.length=sz) (V:us.all Value.one=true) (X:Blk w b vs) (Y:jW (o+us.length) vs.length=true)
 (k:∀w1,Put w w1 b (Ba vs o us)->LW P n ops Q rest l w1):LW P n ops Q (⟨none,.store t x z,ty,pos,after,none⟩::rest) l w:=
 A9 (DR T G M N O U V X Y) (λv w1 h=>by cases v with|none=>exact k w1 h|some _=>exact h.elim)
def I4 {us:lV} (T:TabOk P tab) (N:AB tab t=some (s,sz)) (O:ev l x=some (.pointer (some ⟨b,0,none⟩))) (U:ev l z=some v)
 (V:v.cells=us.toArray) (X:us.length=sz) (Y:us.all Value.one=true) (G:New w0 w b vs) (M:us.length=vs.length)
 (k:∀w1,New w0 w1 b us->LW P n ops Q rest l w1):LW P n ops Q (⟨none,.store t x z,ty,pos,after,none⟩::rest) l w:=
 Lh T N O U V X Y G.blk (by simp [M]) (λw1 p=>k w1 (G.put (by
  have e:Ba vs 0 us=us:=by
   have key:∀(us vs pre:lV),us.length=vs.length->Ba (pre++vs) pre.length us=pre++us:=by
    intro us
    induction us with
    | nil=>intro vs pre h;cases vs with|nil=>simp [Ba]|cons _ _=>simp at h
    | cons u r Z=>
     intro vs pre h;cases vs with
     | nil=>simp at h
     | cons x vs=>
      simp only [Ba];have:(pre++x::vs).set pre.length u=(pre++[u])++vs:=by simp
      rw [this];have:=Z vs (pre++[u]) (by simpa using h);simp only [gR,gH,iM] at this;rw [this];simp
   simpa using key us vs [] M
  rw [e] at p;exact p)))
end seqs
def Vp (v:lV):∀(cells:Array Value) (h j:Nat),((v.zipIdx j).foldl (λcs (c:Value×Nat)=>cs.setIfInBounds (h+c.2) c.1) cells).toList=Ba cells.toList (h+j) v:=by
 induction v with
 | nil=>intro cells h j;simp [Ba]
 | cons x r G=>
  intro cells h j;simp only [List.zipIdx_cons,List.foldl_cons,Ba];rw [G];simp only [Array.toList_setIfInBounds];rw [show h+(j+1)=h+j+1 from by omega]
def Ip:List (Nat×Nat×lV)->lV->Option lV
 | [],cells=>some cells
 | (off,size,v)::r,cells=>match kk v.length size with
  | true=>match jW (off+size) cells.length with
   | true=>Ip r (Ba cells off v)
   | false=>none
  | false=>none
def N5 {M:Nat->Option (Nat×Nat)}:∀(ps:List (Nat×Value)) (N:List (Nat×Nat×lV)) (cells:Array Value) (out:lV),
 ps.length=N.length->(∀(i:Nat) (p:Nat×Value) (q:Nat×Nat×lV),ps[i]? = some p->N[i]? = some q->M p.1=some (q.1,q.2.1)/\p.2.cells=q.2.2.toArray)->Ip N cells.toList=some out->Instr.fill M cells ps=some out.toArray
 | [],[],cells,out,_,_,h=>by simp only [Ip,gE] at h;subst h;simp [Instr.fill]
 | [],_::_,_,_,O,_,_=>by simp at O
 | _::_,[],_,_,O,_,_=>by simp at O
 | (i,v)::ps,(G,size,us)::N,cells,out,O,Z,h=>by
  obtain ⟨h1,U⟩:=Z 0 _ _ rfl rfl;simp only at h1 U;simp only [Ip] at h;split at h
  . rename_i e1;split at h
    . rename_i e2;have V:=iL e1;have X:=gV e2;simp only [jD] at X;have Y:v.cells.size=us.length:=by rw [U];simp
      simp only [Instr.fill,h1];have hc:¬(decide (v.cells.size≠size)||decide (G+v.cells.size>cells.size))=true:=by simp [Y,V];omega
      rw [AC (by simpa using hc)];refine N5 ps N _ out (by simpa using O) (λj p q hj hq=>Z (j+1) p q hj hq) ?_;have hz:v.cells.zipIdx.foldl (λcs (c:Value×Nat)=>cs.setIfInBounds (G+c.2) c.1) cells=(Ba cells.toList G us).toArray:=by
       apply lO;rw [<-Array.foldl_toList];have:=Vp us cells G 0;simpa [U,Array.toList_zipIdx] using this
      rw [show (v.cells.zipIdx.foldl (λcs x=>match x with|(c,j)=>cs.setIfInBounds (G+j) c) cells)=(Ba cells.toList G us).toArray from hz];simpa using h
    . cases h
  . cases h
def O9:∀(us vs pre post:lV),us.length=vs.length->Ba (pre++vs++post) pre.length us=pre++us++post:=by
 intro us
 induction us with
 | nil=>intro vs pre post h;cases vs with|nil=>simp [Ba]|cons _ _=>simp at h
 | cons u r G=>
  intro vs pre post h;cases vs with
  | nil=>simp at h
  | cons x vs=>
   simp only [Ba];have e:(pre++x::vs++post).set pre.length u=(pre++[u])++vs++post:=by simp
   rw [e];have:=G vs (pre++[u]) post (by simpa using h);simp only [gR,gH,iM] at this;rw [this];simp
def G1 (size:Nat):Nat->List lV->List (Nat×Nat×lV)
 | _,[]=>[]
 | k,v::r=>(k*size,size,v)::G1 size (k+1) r
def M6 (size:Nat):∀(G:List lV) (k:Nat) (pre rest:lV),pre.length=k*size->(∀v∈G,v.length=size)->rest.length=G.length*size ->
 Ip (G1 size k G) (pre++rest)=some (pre++G.flatten)
 | [],k,pre,rest,_,_,h=>by
  have:rest=[]:=by simpa using h
  subst this;simp [G1,Ip]
 | v::r,k,pre,rest,U,V,X=>by
  have M:=V v jH;simp only [gH,kE,Nat.one_mul] at X;have N:rest=rest.take size++rest.drop size:=(iT _ _).symm;have O:(rest.take size).length=v.length:=by rw [iE,M];omega
  simp only [G1,Ip];have Y:kk v.length size=true:=by rw [M];exact Nat.beq_refl size
  have Z:jW (k*size+size) (pre++rest).length=true:=Nat.ble_eq_true_of_le (by rw [gR];omega);rw [Y];simp only;rw [Z];simp only;have e:Ba (pre++rest) (k*size) v=pre++v++rest.drop size:=by
   have:=O9 v (rest.take size) pre (rest.drop size) O.symm;rw [iG,<-N,U] at this;exact this
  rw [e];have:=M6 size r (k+1) (pre++v) (rest.drop size) (by rw [gR,U,M,kE,Nat.one_mul]) (λu hu=>V u (jB _ hu)) (by rw [ky];omega);rw [this];simp
def Gu (l:Sl):Nat->List (Nat×Operand)->Option lV
 | _,[]=>some []
 | k,(i,x)::r=>match kk i k with
  | true=>match ev l x with
   | some v=>match Gu l (k+1) r with
    | some vs=>some (v::vs)
    | none=>none
   | none=>none
  | false=>none
def I5 {n:Nat} {l:Sl} {a:Act} (M:Env n l a):∀(ps:List (Nat×Operand)) (k:Nat) (vs:lV),Gu l k ps=some vs->ps.map (λp=>(p.1,a.eval p.2))=(vs.zipIdx k).map (λv=>(v.2,v.1))
 | [],k,vs,h=>by simp only [Gu,gE] at h;subst h;rfl
 | (i,x)::r,k,vs,h=>by
  simp only [Gu] at h;split at h
  . rename_i N;have G:=iL N;split at h
    . rename_i v O;split at h
      . rename_i us U;simp only [gE] at h;subst h G;simp [M.ev O,I5 M r _ _ U]
      . cases h
    . cases h
  . cases h
def N6 (w:wD) (len:Nat) (vs:lV) (T:TypeId):Option Value->wD->Prop
 | some v,w1=> ∃b,v = .slice (some ⟨b,0,none⟩) len len/\New w w1 b vs/\w1.heap[b]? = some (.cells vs.toArray T (0,0))
 | none,_=>False
def M7 (size:Nat):∀(G:List lV) (k i:Nat) (q:Nat×Nat×lV),(G1 size k G)[i]? = some q -> ∃v,G[i]? = some v/\q=((k+i)*size,size,v)
 | [],_,_,_,h=>by simp [G1] at h
 | v::r,k,0,q,h=>by simp [G1] at h;exact ⟨v,rfl,by simp [h]⟩
 | v::r,k,i+1,q,h=>by
  simp only [G1,lx] at h;obtain ⟨u,M,N⟩:=M7 size r (k+1) i q h;exact ⟨u,by simpa using M,by rw [N];congr 2;omega⟩
def I6 (size:Nat):∀(h:List lV) (k:Nat),(G1 size k h).length=h.length
 | [],_=>rfl
 | _::r,k=>by simp [G1,I6 size r]
section does
variable {tab:Tab} {zt:Ee}
def Rp {e len:Nat} (T:TabOk P tab) (Z:Cj P zt) (ht:AB tab t=some (.slice e,sz)) (hE:AB tab e=some (s,b))
 (hz:CC zt e=some zs) (hp:Gu l 0 ps=some vs) (hl:vs.length=len) (hc:vs.all (λv=>kk v.cells.size b)=true) (hm:jW (len*b) 10000=true) (hn0:iC 0 (len*b)=true) :
 BG P n l (.buildSlice t len ps.toArray) ty w (N6 w len (vs.map (·.cells.toList)).flatten e):=by
 unfold BG;intro a dst pos after g next Q ha hn _;have hu:P.underlying t=some (.slice e):=(T _ _ _ ht).under;have hm':=gV hm;have hn0':0<len*b:=gV hn0;obtain ⟨i0,v0,z1,z2,z3⟩:=EI Z hz;have hps:=I5 ha ps 0 vs hp;have hlen:∀v∈vs,v.cells.size=b:=λv hv=>iL (iJ.1 hc v hv)
 have hfill:∀cells:Array Value,cells.size=len*b->Instr.fill (λi=>some (i*b,b)) cells ((vs.zipIdx 0).map (λv=>(v.2,v.1)))=some (vs.map (·.cells.toList)).flatten.toArray:=λcells hcs=>by
  refine N5 _ (G1 b 0 (vs.map (·.cells.toList))) cells _ (by simp [I6]) ?_ ?_
  . intro i p q hi hq;obtain ⟨v,hv,rfl⟩:=M7 b _ 0 i q hq;simp only [iD,lz] at hv hi;obtain ⟨x,hx,rfl⟩:=hv;obtain ⟨y,hy,rfl⟩:=hi;rw [List.getElem?_zipIdx] at hy;rw [hx] at hy;simp only [lr,gE] at hy;subst hy;simp
  . have:=M6 b (vs.map (·.cells.toList)) 0 [] cells.toList (by simp) (by simpa using hlen) (by simp [hcs,hl]);simpa using this
 have e1:(execOp a.eval ⟨dst,.buildSlice t len ps.toArray,ty,pos,after,g⟩).run P w = .ok (.value (.slice (some ⟨w.heap.size,0,none⟩) len len)) (w.alloc (.cells (vs.map (·.cells.toList)).flatten.toArray e (0,0))):=by
  have hpa:(ps.toArray.map λ(p:Nat×Operand)=>(p.1,a.eval p.2)).toList=(vs.zipIdx 0).map (λv=>(v.2,v.1)):=by simpa using hps
  have hb:(Instr.buildSlice t len (ps.toArray.map λ(p:Nat×Operand)=>(p.1,a.eval p.2))).run P w = .ok (.slice (some ⟨w.heap.size,0,none⟩) len len) (w.alloc (.cells (vs.map (·.cells.toList)).flatten.toArray e (0,0))):=by
   simp only [Instr.buildSlice,gO,AD hu,gF,B0 (T _ _ _ hE),hpa];rw [AC (by omega)];simp only [AC (show ¬len*b=0 by omega),zeroValue,typeInfo,program,kV,z1,z2,bind,Sem.bind,pure];rw [hfill _ (by simp)];simp only [newRow,newObj,bind,Sem.bind,kV,pure];rfl
  simp only [execOp,gO];rw [show (ps.toArray.map λx=>match x with|(i,x)=>(i,a.eval x))=ps.toArray.map λ(p:Nat×Operand)=>(p.1,a.eval p.2) from rfl,hb];rfl
 unfold km;rw [e1];exact hn _ _ ⟨_,rfl,Eg _ _ _,by show (w.heap.push _)[w.heap.size]? = _;simp⟩
def BH {a:Addr} (h:ev l x=some (.pointer (some a))):Bm P n l S (.nilCheck x) ty (.pointer (some a)):=by
 unfold Bm;intro a w G pos after g M _;simp [execOp,M.ev h]
def IB (tab:Tab) (fs:List (Nat×Nat)) (l:Sl):List (Nat×Operand)->Option (List (Nat×Value)×List (Nat×Nat×lV))
 | []=>some ([],[])
 | (i,x)::r=>match fs[i]? with
  | some (off,ft)=>match AB tab ft with
   | some (_,sz)=>match ev l x with
    | some v=>match IB tab fs l r with
     | some (ps,qs)=>some ((i,v)::ps,(off,sz,v.cells.toList)::qs)
     | none=>none
    | none=>none
   | none=>none
  | none=>none
def Ks {a:Act} {Z:List (Nat×Nat)} {gs:Array Field} (T:TabOk P tab) (ha:Env n l a) (hg:∀(i o G:Nat),Z[i]? = some (o,G) -> ∃g:Field,gs[i]? = some g/\g.offset=o/\g.type=G /\ ∃j:TypeInfo,P.info? G=some j/\j.size≠0)
 {pl:Array (Nat×Nat)} (M:∀(i:Nat) (g:Field) (s:Sk) (sz:Nat),gs[i]? = some g->TyOk P g.type s sz->pl[i]? = some (g.offset,sz)):∀(xs:List (Nat×Operand)) (ps:List (Nat×Value)) (N:List (Nat×Nat×lV)),IB tab Z l xs=some (ps,N) ->
  xs.map (λp=>(p.1,a.eval p.2))=ps/\ps.length=N.length /\ ∀(i:Nat) (p:Nat×Value) (q:Nat×Nat×lV),ps[i]? = some p->N[i]? = some q->pl[p.1]? = some (q.1,q.2.1)/\p.2.cells=q.2.2.toArray
 | [],ps,N,h=>by simp only [IB,gE,lp] at h;obtain ⟨rfl,rfl⟩:=h;simp
 | (i,x)::r,ps,N,h=>by
  simp only [IB] at h;split at h
  . rename_i O G hf;split at h
    . rename_i s sz ht;split at h
      . rename_i v hv;split at h
        . rename_i U V hr;simp only [gE,lp] at h;obtain ⟨rfl,rfl⟩:=h;obtain ⟨h1,h2,h3⟩:=Ks T ha hg M r U V hr;refine ⟨by simp [ha.ev hv,h1],by simp [h2],?_⟩;rintro (_|j) p q X Y
          . simp only [gX,gE] at X Y;subst X Y;obtain ⟨g,g1,g2,g3,-⟩:=hg i O G hf;refine ⟨?_,by simp⟩;have:=M i g s sz g1 (by rw [g3];exact T _ _ _ ht);rw [g2] at this;exact this
          . exact h3 j p q (by simpa using X) (by simpa using Y)
        . cases h
      . cases h
    . cases h
  . cases h
def M8:∀(N:List Field),(∀f∈N,∃i,P.info? f.type=some i) -> ∃pl:List (Nat×Nat),N.mapM (λf=>(P.info? f.type).map λi=>(f.offset,i.size))=some pl /\ ∀(i:Nat) (g:Field) (s:Sk) (sz:Nat),N[i]? = some g->TyOk P g.type s sz->pl[i]? = some (g.offset,sz)
 | [],_=>⟨[],by simp,by simp⟩
 | f::r,h=>by
  obtain ⟨i,O⟩:=h f jH;obtain ⟨pl,V,X⟩:=M8 r (λg G=>h g (jB _ G));refine ⟨(f.offset,i.size)::pl,by simp [O,V],?_⟩;rintro (_|j) g s sz G U
  . simp only [gX,gE] at G;subst G;obtain ⟨Z,M,Y⟩:=U.info;rw [O] at M;injection M with M
    subst M;simp [Y]
  . exact X j g s sz (by simpa using G) U
def TG {xs:List (Nat×Operand)} {ps:List (Nat×Value)} {G:List (Nat×Nat×lV)} {out:lV} (T:TabOk P tab) (Z:Cj P zt)
 (U:AB tab t=some (.struct h,sz)) (V:CC zt t=some zs) (X:IB tab h l xs=some (ps,G)) (Y:Ip G zs=some out):Bm P n l S (.build t xs.toArray) ty (.agg out.toArray):=by
 unfold Bm;intro a w aa pos after g ha _;obtain ⟨N,h1,h2,O⟩:=(T _ _ _ U).under;obtain ⟨i0,v0,z1,z2,z3⟩:=EI Z V;obtain ⟨pl,p1,p2⟩:=M8 (P:=P) N.toList (λf hf=>by
  obtain ⟨i,hi,rfl⟩:=List.mem_iff_getElem.1 hf;have M:i<h.length:=by simpa [h2] using hi
  obtain ⟨g,g1,g2,g3,j,g4,-⟩:=O i h[i].1 h[i].2 (fY M);have:N.toList[i]=g:=by
   have:=Array.getElem?_eq_some_iff.1 g1;simpa using this.2
  rw [this,g3];exact ⟨j,g4⟩)
 obtain ⟨q1,q2,q3⟩:=Ks T ha O (pl:=pl.toArray) (λi g s sz hg hk=>by simpa using p2 i g s sz (by simpa using hg) hk) xs ps G X;have hb:P.built t (xs.toArray.map λ(p:Nat×Operand)=>(p.1,a.eval p.2)).toList=some out.toArray:=by
  unfold Program.built;simp only [z1,h1,z2,p1];rw [show (xs.toArray.map λ(p:Nat×Operand)=>(p.1,a.eval p.2)).toList=ps from by simpa using q1];exact N5 ps G v0.cells out q2 q3 (by rw [z3];simpa using Y)
 have:=run_build w t _ _ hb;simp only [execOp,gO];rw [show (xs.toArray.map λx=>match x with|(i,x)=>(i,a.eval x))=xs.toArray.map λ(p:Nat×Operand)=>(p.1,a.eval p.2) from rfl,this];rfl
end does
def Row.sub (h:Row w ⟨b,o,none⟩ vs) (i k:Nat):Row w ⟨b,o+i,none⟩ ((vs.drop i).take k):=λj v G=>by
 have M:vs[i+j]? = some v:=by
  rw [lP] at G;split at G
  . rwa [List.getElem?_drop] at G
  . cases G
 have:=h.at M;have e:(⟨b,o+i,none⟩:Addr).add j=⟨b,o+(i+j),none⟩:=by unfold jY;by_cases N:j=0<;>simp [N,lG]
 rw [e];exact this
section parts
variable {tab:Tab}
def EC (T:TabOk P tab) (h:AB tab t=some (s,sz)) (G:s.agg=true) (M:ev l x=some (.pointer (some ⟨b,o,none⟩)))
 (N:∀w,S w->Blk w b vs) (O:jW (o+sz) vs.length=true):Bm P n l S (.load t x) ty (.agg ((vs.drop o).take sz).toArray):=
 Ht T h G M (by have:=gV O;simp;omega) (λw U=>by have:=(N w U).row.sub o sz;simpa using this)
def Iq (T:TabOk P tab) (h:AB tab t=some (s,sz)) (G:s.agg=true) (M:ev l x=some (.pointer (some ⟨b,o+i,none⟩)))
 (N:∀w,S w->Row w ⟨b,o,none⟩ vs) (O:jW (i+sz) vs.length=true):Bm P n l S (.load t x) ty (.agg ((vs.drop i).take sz).toArray):=
 Ht T h G M (by have:=gV O;simp;omega) (λw U=>(N w U).sub i sz)
end parts
def TH {tab:Tab} {a:lB} (T:TabOk P tab) (h:AB tab t=some (.str,sz)) (G:ev l x=some (str a)):Bm P n l S (.call ⟨.builtin .len,#[x],#[t]⟩) ty (.int .i64 a.length):=O8 T (pt:=true) h G
def Arr {α:Type} (S:nP) (sz:Nat) (E:wD->Nat->Nat->α->Prop) (w:wD) (l:List α) (a:oA):Prop:=
 l=[] \/ ∃b o,a=some ⟨b,o,none⟩/\S b /\ ∀i x,l[i]? = some x->E w b (o+i*sz) x
def Arr.mono {α:Type} {S S':nP} {E G:wD->Nat->Nat->α->Prop} {l:List α} {a:oA} (h:Arr S sz E w l a) (O:∀b,S b->S' b) (U:∀b o x,x∈l->S b->E w b o x->G w' b o x):Arr S' sz G w' l a:=by
 rcases h with h|⟨b,o,V,M,X⟩
 . exact gA h
 . exact gB ⟨b,o,V,O b M,λi x N=>U _ _ _ (iI N) M (X i x N)⟩
def Arr.get {α:Type} {S:nP} {E:wD->Nat->Nat->α->Prop} {l:List α} {a:oA} (h:Arr S sz E w l a) (G:0<l.length) :
 ∃b o,a=some ⟨b,o,none⟩/\S b /\ ∀i x,l[i]? = some x->E w b (o+i*sz) x:=by
 rcases h with h|h
 . subst h;simp at G
 . exact h
def TB (w:wD) (b:Nat) (vs:lV) (T:TypeId):Prop:=w.heap[b]? = some (.cells vs.toArray T (0,0))
def TB.blk {T:TypeId} (h:TB w b vs T):Blk w b vs:=⟨T,h⟩
def TB.ext {T:TypeId} (h:TB w b vs T) (e:Ext w w'):TB w' b vs T:=(e.block h.blk.lt).trans h
def TB.set {w:wD} {b i:Nat} {vs:lV} {T:TypeId} (h:TB w b vs T) (v:Value):TB (w.setCell ⟨b,i,none⟩ v) b (vs.set i v) T:=by
 have G:w.heap[b]? = some (.cells vs.toArray T (0,0)):=h;unfold TB;simp [World.setCell,kA,G]
def ET {P:Program} {T:TypeId}:∀(us:lV) (w:wD) (b o i:Nat) (vs:lV),TB w b vs T->o+i+us.length<=vs.length->us.all Value.one=true ->
 ∃w1,(storeCells ⟨b,o,none⟩ us i).run P w = .ok () w1/\Put w w1 b (Ba vs (o+i) us)/\TB w1 b (Ba vs (o+i) us) T
 | [],w,b,o,i,vs,h,_,_=>⟨w,rfl,⟨h.blk,Fr.refl _ _,rfl⟩,h⟩
 | u::r,w,b,o,i,vs,h,N,G=>by
  simp only [gH] at N;simp only [lF,gD] at G;have O:(⟨b,o,none⟩:Addr).add i=⟨b,o+i,none⟩:=by unfold jY;by_cases U:i=0<;>simp [U]
  have e:(storeCells ⟨b,o,none⟩ (u::r) i).run P w=(storeCells ⟨b,o,none⟩ r (i+1)).run P (w.setCell ⟨b,o+i,none⟩ u):=by
   simp only [storeCells,store,O,bind,Sem.bind];exact M5 h.blk (by omega) G.1 _
  obtain ⟨w1,V,M,X⟩:=ET (P:=P) r _ b o (i+1) _ (h.set (i:=o+i) u) (by simp;omega) G.2;refine ⟨w1,by rw [e,V],⟨M.blk,((Fr.refl (· = b) w).setCell ⟨b,o+i,none⟩ u (gA rfl)).trans M.fr,?_⟩,X⟩;rw [M.size];simp [World.setCell]
section typed
variable {P:Program} {n:Nat} {ops:Array Oper} {Q:Exit->Act->wD->Prop} {rest:List Oper} {l:Sl} {w:wD} {tab:Tab}
 {d:Nat} {ty:TypeId} {pos:String} {after:Array Edge}
def Vq (w:wD) (vs:lV) (T:TypeId):Option Value->wD->Prop
 | some v,w1=> ∃b,v = .pointer (some ⟨b,0,none⟩)/\New w w1 b vs/\TB w1 b vs T
 | none,_=>False
def I7 (w:wD) (vs:lV) (T:TypeId):TB (w.alloc (.cells vs.toArray T (0,0))) w.heap.size vs T:=by show (w.heap.push _)[w.heap.size]? = _;simp
def TI (hx:ev l x=some v) (hv:v.cells=vs.toArray):BG P n l (.box t x) ty w (Vq w vs t):=by
 unfold BG;intro a dst pos after g next Q ha hn _;have e:(execOp a.eval ⟨dst,.box t x,ty,pos,after,g⟩).run P w = .ok (.value (.pointer (some ⟨w.heap.size,0,none⟩))) (w.alloc (.cells vs.toArray t (0,0))):=by
  simp [execOp,ha.ev hx,Instr.box,newVar,newRow,newObj,kV,hv,bind,Sem.bind,pure]
 unfold km;rw [e];exact hn _ _ ⟨_,rfl,Eg _ _ _,I7 _ _ _⟩
def Pb {zt:Ee} (Z:Cj P zt) (hz:CC zt t=some vs):BG P n l (.alloc t) ty w (Vq w vs t):=by
 unfold BG;intro a dst pos after g next Q ha hn _;obtain ⟨i,v,h1,h2,h3⟩:=EI Z hz;have e:(execOp a.eval ⟨dst,.alloc t,ty,pos,after,g⟩).run P w = .ok (.value (.pointer (some ⟨w.heap.size,0,none⟩))) (w.alloc (.cells vs.toArray t (0,0))):=by
  simp [execOp,Instr.alloc,zeroValue,typeInfo,program,newVar,newRow,newObj,kV,h1,h2,h3,bind,Sem.bind,pure]
 unfold km;rw [e];exact hn _ _ ⟨_,rfl,Eg _ _ _,I7 _ _ _⟩
def K8 (G:ev l x=some v) (M:v.cells=vs.toArray) (N:iC d n=true)
 (k:∀b w1,New w w1 b vs->TB w1 b vs t->LW P n ops Q rest ((d,.pointer (some ⟨b,0,none⟩))::l) w1):LW P n ops Q (⟨some d,.box t x,ty,pos,after,none⟩::rest) l w:=
 Az (TI G M) N (λ_ w1 ⟨b,h,hn,ht⟩=>h▸k b w1 hn ht) (λ_ h=>h)
def TJ {zt:Ee} (Z:Cj P zt) (G:CC zt t=some vs) (M:iC d n=true)
 (k:∀b w1,New w w1 b vs->TB w1 b vs t->LW P n ops Q rest ((d,.pointer (some ⟨b,0,none⟩))::l) w1):LW P n ops Q (⟨some d,.alloc t,ty,pos,after,none⟩::rest) l w:=
 Az (Pb Z G) M (λ_ w1 ⟨b,h,hn,ht⟩=>h▸k b w1 hn ht) (λ_ h=>h)
end typed
def Fr.of_grown {row:Option Nat} (h:w.grownBy w' row):Fr (λk=>some k=row) w w':=⟨h.os,h.tape,h.output,h.size,λk G M=>h.block k G M⟩
abbrev Own (w:wD) (b:Nat) (e:TypeId) (sz:Nat) (v:Value) (n:Nat) (cs:lV):Prop:=w.ownsRow b e sz v n cs
def Own.nil {e:Nat}:Own w b e sz (.slice none 0 0) 0 []:=⟨by simp,gA ⟨rfl,rfl⟩⟩
def Own.ext {e:Nat} {cs:lV} (h:Own w b e sz v n cs) (x:Ext w w'):Own w' b e sz v n cs:=by
 refine h.kept (row:=none) ⟨Below.os x,mq x,mg x,Below.size x,λk G _=>x.block G⟩ ?_;cases hv:v.ownBlock<;>simp
def Own.blk {e:Nat} {cs:lV} (h:Own w b e sz v n cs) {k:Nat} (G:v.ownBlock=some k):b<=k/\k<w.heap.size:=by
 obtain ⟨-,⟨rfl,-⟩|⟨g,cap,cur,rfl,O,N,-⟩⟩:=h
 . simp [kw] at G
 . simp [kw] at G;subst G;refine ⟨O,?_⟩;rcases gQ g w.heap.size with M|M
   . exact M
   . rw [iN M] at N;cases N
def Own.fr {S:nP} {e:Nat} {cs:lV} (h:Own w b e sz v n cs) (x:Fr S w w') (N:∀k,v.ownBlock=some k -> ¬S k):Own w' b e sz v n cs:=by
 have O:∀k,v.ownBlock=some k->b<=k/\k<w.heap.size:=λk U=>h.blk U
 obtain ⟨M,V|⟨g,cap,cur,rfl,X,Y,Z⟩⟩:=h
 . exact ⟨M,gA V⟩
 . obtain ⟨-,G⟩:=O g rfl;exact ⟨M,gB ⟨g,cap,cur,rfl,X,by rw [x.block g G (N g rfl)];exact Y,Z⟩⟩
def Own.row {e:Nat} {cs:lV} (h:Own w b e sz v n cs):(v = .slice none 0 0/\n=0/\cs=[]) \/ ∃g cap,v = .slice (some ⟨g,0,none⟩) n cap/\b<=g/\v.ownBlock=some g/\Row w ⟨g,0,none⟩ cs:=by
 obtain ⟨N,⟨rfl,rfl⟩|⟨g,cap,cur,rfl,O,U,-,-,-,V⟩⟩:=h
 . exact gA ⟨rfl,rfl,by simpa using N⟩
 . refine gB ⟨g,cap,rfl,O,rfl,λi u G=>?_⟩;have e:(⟨g,0,none⟩:Addr).add i=⟨g,i,none⟩:=by unfold jY;by_cases X:i=0<;>simp [X]
   rw [e];rw [<-V] at G;have M:cur.toList[i]? = some u:=by
    rw [lP] at G;split at G
    . exact G
    . cases G
   simpa [World.cell?,U] using M
def dY (w:wD) (b:Nat) (e:TypeId) (sz:Nat) (v:Value) (n:Nat) (cs:lV):Option Value->wD->Prop
 | some v',w'=>Own w' b e sz v' n cs/\Fr (λk=>v.ownBlock=some k) w w' /\ ∃g cap,v' = .slice (some ⟨g,0,none⟩) n cap/\(v.ownBlock=some g\/w.heap.size<=g)
 | none,_=>False
def Dk (P:Program) (e:TypeId):Bool:=match P.info? e with
 | some i=>jW i.bytes 1000
 | none=>false
def SH (v:Value):Value.one v=v.oneCell':=by cases v<;>rfl
section app
variable {tab:Tab} {zt:Ee}
def DV {e k m cap:Nat} {cs us:lV} {p:Addr} (T:TabOk P tab) (Z:Cj P zt) (ht:AB tab t=some (.slice e,dj)) (hE:AB tab e=some (s,sz)) (hz:CC zt e=some zs) (hzl:zs.length=sz)
 (hby:Dk P e=true) (hsz:iC 0 sz=true) (hx:ev l x=some v) (hy:ev l z=some (.slice (some p) m cap)) (hown:Own w b e sz v k cs) (hr:Row w p us) (hul:us.length=m*sz) (hu:us.all Value.one=true) (hkm:k+m<=100000000000) (hm0:0<k+m) (hb:b<=w.heap.size) :
 BG P n l (.call ⟨.builtin .append,#[x,z],#[t,t]⟩) ty w (dY w b e sz v (k+m) (cs++us)):=by
 unfold BG;intro a dst pos after g next Q ha hn _;obtain ⟨i,v0,z1,z2,z3⟩:=EI Z hz;obtain ⟨i',hi',hs'⟩:=(T _ _ _ hE).info;rw [z1] at hi';obtain rfl:=gJ hi';have hbb:i.bytes<=1000:=by
  unfold Dk at hby;rw [z1] at hby;exact gV hby
 have hzs:v0.cells.size=sz:=by rw [z3];simpa using hzl
 have hsz':0<sz:=gV hsz;have hbytes:(k+m)*i.bytes<=140737488355328:=by have:=mp hkm hbb;omega
 have hnews:∀j u,us[j]? = some u->w.cell? (p.add j)=some u:=λj u hj=>hr j u hj
 have h1c:∀u∈us,u.oneCell'=true:=λu hm=>by rw [<-SH];exact iJ.1 hu u hm
 have hu':P.underlying t=some (.slice e):=(T _ _ _ ht).under;obtain ⟨v',w',hrun,h1,h2,h3⟩:=run_append_own (P:=P) w b t ty e i v0 sz i.bytes hu' z1 z2 hs' rfl hzs hsz' v k cs hown p m cap us hul hnews h1c (by unfold maxLen;omega) hbytes hb;have hwhere:∃g cap',v' = .slice (some ⟨g,0,none⟩) (k+m) cap'/\(v.ownBlock=some g\/w.heap.size<=g):=by
  subst hs';rcases hown.2 with ⟨rfl,rfl⟩|⟨g,cap',cur,rfl,hbg,hg,hnc,hcm,hcs,htake⟩
  . by_cases hm:m=0
    . omega
    . have hr':=run_append_nil (P:=P) w t ty e i v0 hu' z1 z2 p m cap us hul hnews (by omega) (by omega) (by have hb:=hbytes;simp only [iR] at hb;omega);rw [hr'] at hrun;simp only [lM] at hrun;exact ⟨w.heap.size,_,by rw [<-hrun.1,iR],gB (gP _)⟩
  . by_cases hroom:k+m<=cap'
    . have hfit:k*i.size+us.length<=cur.size:=by rw [hul,hcs,<-kE];exact kF _ hroom
      have hr':=run_append_room (P:=P) w t ty e i hu' z1 g k cap' cur hg p m cap us hul hnews h1c hroom hfit;rw [hr'] at hrun;simp only [lM] at hrun;exact ⟨g,_,hrun.1.symm,gA rfl⟩
    . have holds:∀j u,cs[j]? = some u->w.cell? ((⟨g,0,none⟩:Addr).add j)=some u:=hown.cells (g:=g) rfl;have hr':=run_append_grow (P:=P) w t ty e i v0 hu' z1 z2 ⟨g,0,none⟩ k cap' cs hown.1 holds p m cap us hul hnews (by omega) (by omega) (growslice_fits (by omega) hbytes);rw [hr'] at hrun;simp only [lM] at hrun;exact ⟨w.heap.size,_,hrun.1.symm,gB (gP _)⟩
 have e1:(execOp a.eval ⟨dst,.call ⟨.builtin .append,#[x,z],#[t,t]⟩,ty,pos,after,g⟩).run P w = .ok (.value v') w':=by
  simp only [execOp,resolve,invoke,builtin,gO,hH,jL,lW,iO,lg,ha.ev hx,ha.ev hy,hrun]
 unfold km;rw [e1];exact hn v' w' ⟨h1,⟨h2.os,h2.tape,h2.output,h2.size,λj hj hs=>h2.block j hj (λe=>hs e.symm)⟩,hwhere⟩
end app
def Bg (es:List MapEntry) (kvs:List (lB×Value)):Prop:=es.map (λe=>(e.key,e.val))=kvs.map (λp=>(str p.1,p.2))
def MapIs (w:wD) (r:Nat) (kvs:List (lB×Value)):Prop:= ∃es clock,w.heap[r]? = some (.map es clock)/\Bg es.toList kvs
def Ef:List (lB×Value)->lB->Option Value
 | [],_=>none
 | p::r,k=>if k=p.1 then some p.2 else Ef r k
def F8:List (lB×Value)->lB->Value->List (lB×Value)
 | [],k,v=>[(k,v)]
 | p::r,k,v=>if k=p.1 then (p.1,v)::r else p::F8 r k v
def MapIs.lt {r:Nat} {kvs:List (lB×Value)} (h:MapIs w r kvs):r<w.heap.size:=by
 obtain ⟨es,c,h,-⟩:=h;rcases gQ r w.heap.size with G|G
 . exact G
 . rw [iN G] at h;cases h
def MapIs.ext {r:Nat} {kvs:List (lB×Value)} (h:MapIs w r kvs) (x:Ext w w'):MapIs w' r kvs:=by
 have G:=h.lt;obtain ⟨es,c,h,e⟩:=h;exact ⟨es,c,by rw [x.block G];exact h,e⟩
def MapIs.fr {S:nP} {r:Nat} {kvs:List (lB×Value)} (h:MapIs w r kvs) (x:Fr S w w') (G:¬S r):MapIs w' r kvs:=by
 have M:=h.lt;obtain ⟨es,c,h,e⟩:=h;exact ⟨es,c,by rw [x.block r M G];exact h,e⟩
def N7 (b:ByteArray) (x:lB):(b==(⟨x.toArray⟩:ByteArray))=(b.data.toList==x):=by
 show (b.data==x.toArray)=_;rw [jV];simp;constructor
 . intro h;rw [h]
 . intro h;rw [<-h]
def Kt:∀(es:List MapEntry) (kvs:List (lB×Value)) (k:lB) (i:Nat),Bg es kvs ->
 ∃o,Instr.findNow .string (str k) es i=some o/\(o.map (·.2)=Ef kvs k) /\ ∀j v,o=some (j,v)->i<=j /\ ∃e,es[j-i]? = some e/\e.key=str k /\ ∀M,Bg (es.set (j-i) { e with key:=str k,val:=M }) (F8 kvs k M)
 | [],[],k,i,_=>⟨none,rfl,rfl,λ_ _ h=>by cases h⟩
 | [],_::_,_,_,h=>by simp [Bg] at h
 | _::_,[],_,_,h=>by simp [Bg] at h
 | e::es,(O,M)::kvs,k,i,h=>by
  simp only [Bg,iO,iP,lp] at h;obtain ⟨⟨N,U⟩,V⟩:=h;have X:Instr.sameNow .string (str k) e.key=some (decide (k=O)):=by
   rw [N];simp only [Instr.sameNow];rw [N7];simp [FE]
  by_cases G:k=O
  . subst G;refine ⟨some (i,e.val),by simp [Instr.findNow,X],by simp [Ef,U],λj v h=>?_⟩;simp only [gE,lp] at h;obtain ⟨rfl,-⟩:=h;refine ⟨gP _,e,by simp,N,λM=>?_⟩;simp [Bg,F8,V]
  . obtain ⟨o,Z,h2,h3⟩:=Kt es kvs k (i+1) V;refine ⟨o,by simp [Instr.findNow,X,G,Z],by simp [Ef,G,h2],λj v h=>?_⟩;obtain ⟨g1,e',g2,g3,g4⟩:=h3 j v h;have Y:j-i=(j-(i+1))+1:=by omega
    refine ⟨by omega,e',by rw [Y];simpa using g2,g3,λM=>?_⟩;rw [Y];have:=g4 M;simp only [Bg] at this ⊢;simp [F8,G,N,U,this]
section maps
variable {tab:Tab} {zt:Ee}
def run_findKey (N:P.underlying b=some .string) {es:List MapEntry} {kvs:List (lB×Value)} {k:lB} (h:Bg es kvs) (w:wD) :
 ∃o,(Instr.findKey b (str k) es).run P w = .ok o w/\(o.map (·.2)=Ef kvs k) /\ ∀j v,o=some (j,v) -> ∃e,es[j]? = some e/\e.key=str k /\ ∀M,Bg (es.set j { e with key:=str k,val:=M }) (F8 kvs k M):=by
 obtain ⟨o,O,U,V⟩:=Kt es kvs k 0 h;refine ⟨o,by simp [Instr.findKey,AD N,gF,O],U,λj v X=>?_⟩;obtain ⟨-,e,Y,Z,g4⟩:=V j v X;exact ⟨e,by simpa using Y,Z,by simpa using g4⟩
def run_checkKey {h:Nat} (G:P.underlying h=some .string) (b:Bool) (k:lB) (w:wD):(Instr.checkKey b 10000 h (str k)).run P w = .ok () w:=by
 rw [show (10000:Nat)=9999+1 from rfl,Instr.checkKey];simp [AD G,gF]
def Cx (o:Option Value) (z:Value) (c:Bool):Value:=if c then .tuple #[o.getD z,.bool o.isSome] else o.getD z
def Li {y:Operand} {e N r:Nat} {c:Bool} {k:lB} {z:Value} {kvs:List (lB×Value)} (T:TabOk P tab) (Z:AB tab t=some (.map b e,sz)) (O:AB tab b=some (.str,N)) (U:((P.info? e).bind (·.zero))=some z)
 (hx:ev l x=some (.map (some r))) (hy:ev l y=some (str k)) (hm:∀w,S w->MapIs w r kvs):Bm P n l S (.lookup t x y c) ty (Cx (Ef kvs k) z c):=by
 unfold Bm;intro a w aa pos after g X hS;have hu:P.underlying t=some (.map b e):=(T _ _ _ Z).under;have Y:P.underlying b=some .string:=(T _ _ _ O).under;obtain ⟨es,h,hh,he⟩:=hm w hS;obtain ⟨i0,z1,z2⟩:∃i,P.info? e=some i/\i.zero=some z:=by
  cases hi:P.info? e with
  | none=>rw [hi] at U;cases U
  | some i=>exact ⟨i,rfl,by simpa [hi] using U⟩
 obtain ⟨o,h1,h2,-⟩:=run_findKey Y (k:=k) he w;have V:(zeroValue e).run P w = .ok z w:=by simp [zeroValue,typeInfo,program,kV,z1,z2,bind,Sem.bind,pure]
 have e1:(Instr.lookup t (.map (some r)) (str k) c).run P w = .ok (Cx (Ef kvs k) z c) w:=by
  have hg:(getObj r).run P w = .ok (.map es h) w:=by simp [getObj,kV,hh]
  simp only [Instr.lookup,gO,AD hu,gF,hg,hH,run_checkKey Y,h1];rw [<-h2];cases o with
  | none=>simp [V,Cx]
  | some q=>simp [Cx]
 simp only [execOp,X.ev hx,X.ev hy,gO,e1,gF,hH]
def IC (w:wD) (r:Nat) (o G:Obj) (h:w.heap[r]? = some o):({ w with heap:=w.heap.setIfInBounds r G }:wD).heap[r]? = some G/\Fr (· = r) w { w with heap:=w.heap.setIfInBounds r G }:=by
 have M:r<w.heap.size:=(Array.getElem?_eq_some_iff.1 h).1;refine ⟨by simp [M],rfl,rfl,rfl,by simp,λk O N=>?_⟩;exact Array.getElem?_setIfInBounds_ne (λe=>N e.symm)
def MT {e r:Nat} {k:lB} {kvs:List (lB×Value)} (T:TabOk P tab) (ht:AB tab t=some (.map b e,sz)) (aa:AB tab b=some (.str,dj)) (hm:MapIs w r kvs) :
 ∃w1,(Instr.mapUpdate t (.map (some r)) (str k) v).run P w = .ok () w1/\MapIs w1 r (F8 kvs k v)/\Fr (· = r) w w1/\w1.heap.size=w.heap.size:=by
 have hu:P.underlying t=some (.map b e):=(T _ _ _ ht).under;have hk:P.underlying b=some .string:=(T _ _ _ aa).under;obtain ⟨es,G,V,he⟩:=hm;obtain ⟨o,h1,h2,h3⟩:=run_findKey hk (k:=k) he w;have hg:(getObj r).run P w = .ok (.map es G) w:=by simp [getObj,kV,V]
 have M:∀ob,(setObj r ob).run P w = .ok () { w with heap:=w.heap.setIfInBounds r ob }:=λob=>by simp [setObj,kV,V]
 cases o with
 | none=>
  have ab:Ef kvs k=none:=by simpa using h2.symm
  obtain ⟨p1,p2⟩:=IC w r _ (.map (es.push { key:=str k,val:=v,born:=G }) (G+1)) V;refine ⟨_,?_,⟨_,_,p1,?_⟩,p2,by simp⟩
  . simp only [Instr.mapUpdate,gO,AD hu,gF,hg,run_checkKey hk,h1,M]
  . have key:∀(es:List MapEntry) (kvs:List (lB×Value)),Bg es kvs->Ef kvs k=none->Bg (es++[{ key:=str k,val:=v,born:=G }]) (F8 kvs k v):=by
     intro es kvs
     induction kvs generalizing es with
     | nil=>intro h _;cases es with|nil=>simp [Bg,F8]|cons _ _=>simp [Bg] at h
     | cons p r ih=>
      intro h X;cases es with
      | nil=>simp [Bg] at h
      | cons e es=>
       simp only [Ef] at X;split at X
       . cases X
       . rename_i ac;simp only [Bg,iO,iP] at h;have:=ih es h.2 X;simp only [Bg] at this ⊢;simp [F8,ac,h.1,this]
    simpa using key es.toList kvs he ab
 | some q=>
  obtain ⟨j,u⟩:=q;obtain ⟨en,g1,g2,g3⟩:=h3 j u rfl;have N:(Instr.keyThatStays (((es[j]?).map (·.key)).getD (str k)) (str k)).run P w = .ok (str k) w:=by
   have:es[j]? = some en:=by simpa using g1
   rw [this];have hb:((⟨k.toArray⟩:ByteArray)==⟨k.toArray⟩)=true:=by rw [N7];simp
   simp [Instr.keyThatStays,g2,Instr.sameBits,hb]
  obtain ⟨p1,p2⟩:=IC w r _ (.map (es.modify j λe=>{ e with key:=str k,val:=v }) G) V;refine ⟨_,?_,⟨_,_,p1,?_⟩,p2,by simp⟩
  . simp only [Instr.mapUpdate,gO,AD hu,gF,hg,run_checkKey hk,h1,N,M]
  . have:=g3 v;have e:(es.modify j λe=>{ e with key:=str k,val:=v }).toList=es.toList.set j { en with key:=str k,val:=v }:=by
     apply ku;intro i;have gj:es[j]? = some en:=by simpa using g1
     rw [l5,kA,List.getElem?_set];by_cases O:j=i
     . subst O;have ad:j<es.size:=(Array.getElem?_eq_some_iff.1 gj).1;rw [AT rfl,AT rfl,gj];simp [ad]
     . simp [O]
    rw [e];exact this
end maps
section strs
variable {tab:Tab} {y:Operand} {t':Nat} {a:lB}
def I8 {h:IntKind} {i m:Int} (T:TabOk P tab) (O:AB tab t=some (.int k,sz)) (M:AB tab t'=some (.int h,dj)) {U:IntKind} (V:ev l x=some (.int U i)) (X:h.wrap i=m):Bm P n l S (.convert t t' x) ty (.int h m):=by
 unfold Bm;intro b w Y pos after g Z _;have hu:P.underlying t=some (.int k):=(T _ _ _ O).under;have N:P.underlying t'=some (.int h):=(T _ _ _ M).under;subst X;simp [execOp,Z.ev V,convert,AD hu,AD N,gF,Conv.intToInt]
end strs
def Ext.ext {a b c:wD} (h:Ext a b) (x:Ext b c):Ext a c:=h.trans x
def Fr.ext {S:nP} {a b c:wD} (h:Fr S a b) (x:Ext b c):Fr S a c:=h.trans (.of_ext x)
def Ext.fr {S:nP} {a b c:wD} (h:Ext a b) (x:Fr S b c) (M:∀k,S k->a.heap.size<=k):Ext a c:=
 ⟨x.os.trans (Below.os h),x.tape.trans (mq h),x.output.trans (mg h),jR h.size x.size,
  λk G=>(x.block k (jN G h.size) (λN=>by have:=M k N;omega)).trans (h.block G)⟩
def Fr.fr {S:nP} {a b c:wD} (h:Fr T a b) (x:Fr S b c) (N:∀k,S k->T k\/a.heap.size<=k):Fr T a c:=
 ⟨x.os.trans h.os,x.tape.trans h.tape,x.output.trans h.output,jR h.size x.size,
  λk G M=>(x.block k (jN G h.size) (λO=>by rcases N k O with h|h;exact M h;omega)).trans (h.block k G M)⟩
def TB.fr {S:nP} {T:TypeId} (h:TB w b vs T) (x:Fr S w w') (G:¬S b):TB w' b vs T:=(x.block b h.blk.lt G).trans h
def Fr.weaken {S:nP} (h:Fr S w w') (k:∀b,S b->T b):Fr T w w':=⟨h.os,h.tape,h.output,h.size,λb G M=>h.block b G (λN=>M (k b N))⟩
section code
variable {c:Operand} {x:Code}
def BP [Decidable p] [Decidable (¬p)] (G:ev l c=some (.bool (decide (¬p)))) (M:¬p->CW P n x Q l w) (N:p->CW P n y Q l w):CW P n (.cond c x y) Q l w:=
 AA G M (λh=>N (Decidable.not_not.1 h))
def I9 (h:ev l c=some (.bool (!q))) (G:q=false->CW P n x Q l w) (M:q=true->CW P n y Q l w):CW P n (.cond c x y) Q l w:=
 FD h (λe=>G (by simpa using e)) (λe=>M (by simpa using e))
variable {ops:Array Oper} {rest:List Oper} {tab:Tab} {d:Nat} {pos:String} {after:Array Edge}
def B4 {o:Oper} {g:Nat×Bool} [Decidable p] (_:o.guard=some g) (_:BM ops g.1=some dj) (_:look l dj=some (.bool (decide p))) (G:p->LW P n ops Q (o::rest) l w) (M:¬p->LW P n ops Q (o::rest) l w):LW P n ops Q (o::rest) l w:=by
 by_cases h:p
 . exact G h
 . exact M h
def N8 {o:Oper} {g:Nat×Bool} {b:Bool} (_:o.guard=some g) (_:BM ops g.1=some dj) (_:look l dj=some (.bool b)) (G:b=true->LW P n ops Q (o::rest) l w) (M:b=false->LW P n ops Q (o::rest) l w):LW P n ops Q (o::rest) l w:=by
 cases h:b
 . exact M h
 . exact G h
def cG {a:Operand} (T:TabOk P tab) (h:AB tab t=some (s,sz)) (G:s.agg=false) (M:ev l a=some (.pointer (some ⟨b,o,none⟩)))
 (N:Blk w b vs) (O:vs[o]? = some v) (U:iC d n=true) (k:LW P n ops Q rest ((d,v)::l) w):LW P n ops Q (⟨some d,.load t a,ty,pos,after,none⟩::rest) l w:=
 CB (Ar T h G M (λX V=>by subst V;exact N.cell O)) U k
def Dh {a:Operand} (T:TabOk P tab) (h:AB tab t=some (s,sz)) (G:s.agg=false) (M:ev l a=some (.pointer (some ⟨b,o+i,none⟩)))
 (N:Row w ⟨b,o,none⟩ vs) (O:vs[i]? = some v) (U:iC d n=true) (k:LW P n ops Q rest ((d,v)::l) w):LW P n ops Q (⟨some d,.load t a,ty,pos,after,none⟩::rest) l w:=
 CB (Ar T h G M (λX V=>by subst V;exact N.at O)) U k
def Do {a:Operand} (T:TabOk P tab) (h:AB tab t=some (s,sz)) (G:s.agg=false) (M:ev l a=some (.pointer (some ⟨b,o,none⟩)))
 (N:Row w ⟨b,o,none⟩ vs) (O:vs[0]? = some v) (U:iC d n=true) (k:LW P n ops Q rest ((d,v)::l) w):LW P n ops Q (⟨some d,.load t a,ty,pos,after,none⟩::rest) l w:=
 CB (Ar T h G M (λX V=>by subst V;exact N.at0 O)) U k
def Rq {a:Operand} (T:TabOk P tab) (h:AB tab t=some (s,sz)) (G:s.agg=true) (M:ev l a=some (.pointer (some ⟨b,o,none⟩)))
 (N:Blk w b vs) (O:jW (o+sz) vs.length=true) (U:iC d n=true) (k:LW P n ops Q rest ((d,.agg ((vs.drop o).take sz).toArray)::l) w):LW P n ops Q (⟨some d,.load t a,ty,pos,after,none⟩::rest) l w:=
 CB (EC T h G M (λX V=>by subst V;exact N) O) U k
def Rr {a:Operand} (T:TabOk P tab) (h:AB tab t=some (s,sz)) (G:s.agg=true) (M:ev l a=some (.pointer (some ⟨b,o+i,none⟩)))
 (N:Row w ⟨b,o,none⟩ vs) (O:jW (i+sz) vs.length=true) (U:iC d n=true) (k:LW P n ops Q rest ((d,.agg ((vs.drop i).take sz).toArray)::l) w):LW P n ops Q (⟨some d,.load t a,ty,pos,after,none⟩::rest) l w:=
 CB (Iq T h G M (λX V=>by subst V;exact N) O) U k
def ZM {a:Operand} (T:TabOk P tab) (h:AB tab t=some (s,sz)) (G:s.agg=true) (M:ev l a=some (.pointer (some ⟨b,o,none⟩)))
 (N:Row w ⟨b,o,none⟩ vs) (O:vs.length=sz) (U:iC d n=true) (k:LW P n ops Q rest ((d,.agg vs.toArray)::l) w):LW P n ops Q (⟨some d,.load t a,ty,pos,after,none⟩::rest) l w:=
 CB (Bt T h G M (λX V=>by subst V;exact N) O) U k
end code
def Ja (ops:Array Oper) (j i:Nat):Bool:=match ops[j]? with
 | none=>false
 | some o=>o.after.any λe=>jM .any e&&kk e.on i
def DC (ops:Array Oper) (listed:Array Bool):Prop:= ∀k o,ops[k]? = some o->listed.getD k false=true -> ∀e∈o.after,jM .any e=true->listed.getD e.on false=true
def Eh {j:Nat} (h:Ja a j i=true):∃o e,a[j]? = some o/\e∈o.after/\jM .any e=true/\e.on=i:=by
 unfold Ja at h;split at h
 . cases h
 . rename_i o M;obtain ⟨e,N,G⟩:=Array.any_eq_true'.1 h;simp only [gD] at G;exact ⟨o,e,M,N,G.1,iL G.2⟩
def D5 (ops:Array Oper) (K i:Nat):Prop:= ∀(listed:Array Bool) (j:Nat) (o:Oper),DC ops listed->K<=j->ops[j]? = some o->(∀e∈o.after,jM .any e=true->listed.getD e.on false=true)->listed.getD i false=true
def ID (ops:Array Oper) (K:Nat):Bool:=((jQ K).all λi=>(List.range' (i+1) (K-i)).any λj=>Ja ops j i)&&((List.range' (K+1) (ops.size-(K+1))).all λj=>(List.range' K (j-K)).any λi=>Ja ops j i)
def DN {K:Nat} (h:ID a K=true) (hK:K<a.size):∀i,i<K->D5 a K i:=by
 simp only [ID,gD,iJ,lN,lh,lA] at h;obtain ⟨h1,h2⟩:=h;intro i hi M j o Z hj X G;have aa:∀m j o,j<=K+m->K<=j->a[j]? = some o->(∀e∈o.after,jM .any e=true->M.getD e.on false=true) -> ∀oK,a[K]? = some oK -> ∀e∈oK.after,jM .any e=true->M.getD e.on false=true:=by
  intro m
  induction m with
  | zero=>
   intro j o hm hj X G oK N;have:j=K:=by omega
   subst this;rw [X] at N;obtain rfl:=gJ N;exact G
  | succ m ih=>
   intro j o hm hj X G oK N;by_cases Y:j=K
   . subst Y;rw [X] at N;obtain rfl:=gJ N;exact G
   . have ad:j<a.size:=(Array.getElem?_eq_some_iff.1 X).1;obtain ⟨i',ab,hw⟩:=h2 j (by omega);obtain ⟨oj,e,O,he,hb,U⟩:=Eh hw;rw [X] at O;obtain rfl:=gJ O;have hl:=G e he hb;rw [U] at hl;have V:i'<a.size:=by omega
     exact ih i' a[i'] (by omega) ab.1 (jG V) (Z i' _ (jG V) hl) oK N
 have ac:=aa (j-K) j o (by omega) hj X G a[K] (jG hK);have key:∀d i,K-i<=d->i<K->M.getD i false=true:=by
  intro d
  induction d with
  | zero=>intro i h hi;omega
  | succ d ih=>
   intro i hd hi;obtain ⟨j',ae,hw⟩:=h1 i hi;obtain ⟨oj,e,O,he,hb,U⟩:=Eh hw;by_cases Y:j'=K
   . subst Y;rw [jG hK] at O;obtain rfl:=gJ O;have:=ac e he hb;rwa [U] at this
   . have hl:=ih j' (by omega) (by omega);have:=Z j' oj O hl e he hb;rwa [U] at this
 exact key (K-i) i (gP _) hi
section
variable {ops:Array Oper} {K:Nat}
def G2 (P:Program) (ops:Array Oper) (Q:Exit->Act->wD->Prop) (S:wD->Prop) (K:Nat):Nat->Array Bool->Act->wD->Prop
 | 0,listed,a,w=>iH .any ops listed=[]/\Q .normal a w
 | fuel+1,listed,a,w=>
  (iH .any ops listed=[]->Q .normal a w) /\
  ∀i∈iH .any ops listed,wpOp P ops Q i (λa' w'=>(i<K->S w')/\G2 P ops Q S K fuel (listed.setIfInBounds i true) a' w') a w
def IE:∀(G:Nat) (M:Array Bool) (a:Act) (w:wD),G2 P ops Q S K G M a w->wpAny P .any ops Q G M a w
 | 0,_,_,_,h=>h
 | G+1,_,_,_,h=>⟨h.1,λi N=>wpOp_mono (λO w' U=>IE G _ O w' U.2) (h.2 i N)⟩
def DC.set {G:Array Bool} (h:DC ops G) {j:Nat} (hj:j∈iH .any ops G):DC ops (G.setIfInBounds j true):=by
 obtain ⟨Y,oj,U,M⟩:=mem_ready.1 hj;intro k o V Z e he hb;have key:G.getD e.on false=true:=by
  by_cases N:j=k
  . subst N;rw [U] at V;obtain rfl:=gJ V;exact M e he hb
  . refine h k o V ?_ e he hb;rw [getD_set_ne false N] at Z;exact Z
 by_cases O:j=e.on
 . subst O;rcases gQ e.on G.size with X|X
   . simp [X]
   . simp [iN X] at key
 . rw [getD_set_ne false O];exact key
def N9 (hi:ops[i]? = some oi) (hK:i<K) (ag:D5 ops K i) (Y:∀(j:Nat) (o:Oper) cs b,ops[j]? = some o->o.op≠.select cs b)
 (hQ:∀c a w,Q (.panic c) (a.put oi.dst v) w->Q (.panic c) a w) :
 ∀(M:Nat) (G:Array Bool) (a:Act) (w:wD),DC ops G ->
  (∀j Z,ops[j]? = some Z->j≠i->G.getD j true=false->(∀e∈Z.after,jM .any e=true->e.on≠i)->oi.apart ops Z=true) ->
  i∈iH .any ops G->YieldsIf P ops S oi v a->S w ->
  G2 P ops Q S K M (G.setIfInBounds i true) (a.put oi.dst v) w->G2 P ops Q S K (M+1) G a w:=by
 intro M
 induction M with
 | zero=>
  intro G a w _ _ hr hy hS H;refine ⟨λh=>(by rw [h] at hr;cases hr),λj hj=>?_⟩;by_cases N:j=i
  . subst N;exact hy.wpOp hi hS ⟨λ_=>hS,H⟩
  . have:=ready_mono hj N;rw [H.1] at this;cases this
 | succ M ih=>
  intro G a w ac O hr hy hS H;refine ⟨λh=>(by rw [h] at hr;cases hr),λj hj=>?_⟩;by_cases N:j=i
  . subst N;exact hy.wpOp hi hS ⟨λ_=>hS,H⟩
  . have h1:=H.2 j (ready_mono hj N);obtain ⟨aa,Z,V,ab⟩:=mem_ready.1 hj;have U:¬G.getD i false=true:=λhc=>by
     have h0:=(mem_ready.1 hr).1;rcases gQ i G.size with h'|h'
     . simp [h'] at h0 hc;rw [h0] at hc;cases hc
     . simp [iN h'] at hc
    have ad:j<K:=by
     rcases gQ j K with h|h
     . exact h
     . exact absurd (ag G j Z ac h V ab) U
    have ae:∀e∈Z.after,jM .any e=true->e.on≠i:=λe he hb ah=>U (ah▸ab e he hb)
    have h2:=wpOp_putIf V (O j Z V N aa ae) (λcs b=>Y i oi cs b hi) (λcs b=>Y j Z cs b V) hQ hy h1;have X:∀k ok,ops[k]? = some ok->k≠i->(G.setIfInBounds j true).getD k true=false ->
     (∀e∈ok.after,jM .any e=true->e.on≠i)->oi.apart ops ok=true:=λk ok hk ai U aj=>by
     refine O k ok hk ai ?_ aj;by_cases af:j=k
     . subst af;exact aa
     . rw [getD_set_ne true af] at U;exact U
    refine wpOp_mono (λa' w' h3=>⟨λ_=>h3.2.1 ad,ih (G.setIfInBounds j true) a' w' (ac.set hj) X (ready_mono hr (l3 N)) h3.1 (h3.2.1 ad) ?_⟩) h2;rw [lq _ _ N];exact h3.2.2
end
inductive Sc where
 | done
 | pure (i:Nat) (r:Sc)
 | fork (i:Nat) (x r:Sc)
 | none
 | tail
def Sc.alts:Sc->List Nat
 | .fork i _ r=>i::r.alts
 | _=>[]
def EZ (ops:Array Oper):Nat->Nat->Array Bool->Bool
 | 0,_,listed=>(iH .any ops listed).isEmpty
 | f+1,k,listed=>(iH .any ops listed==[k])&&EZ ops f (k+1) (listed.setIfInBounds k true)
def Sc.ok (ops:Array Oper) (K:Nat):Bool->Sc->Nat->Array Bool->Bool
 | true,.done,_,listed=>(iH .any ops listed).isEmpty
 | true,.pure i r,f+1,listed=>iC i K&&(iH .any ops listed).contains i&&Region.free .any ops listed i&&Sc.ok ops K true r f (listed.setIfInBounds i true)
 | true,.fork i x r,f+1,listed=>(iH .any ops listed).all (λj=>(i::r.alts).contains j)&&(iH .any ops listed).contains i&&Sc.ok ops K true x f (listed.setIfInBounds i true)&&Sc.ok ops K false r (f+1) listed
 | true,.tail,f,listed=>kk (f+K) ops.size&&EZ ops f K listed
 | false,.fork i x r,f+1,listed=>(iH .any ops listed).contains i&&Sc.ok ops K true x f (listed.setIfInBounds i true)&&Sc.ok ops K false r (f+1) listed
 | false,.none,_,_=>true
 | _,_,_,_=>false
def HT (P:Program) (ops:Array Oper) (Q:Exit->Act->wD->Prop) (S:wD->Prop) (K:Nat):Sc->Act->wD->Prop
 | .done,a,w=>Q .normal a w
 | .pure i r,a,w=> ∃o v,ops.toList[i]? = some o/\YieldsIf P ops S o v a/\HT P ops Q S K r (a.put o.dst v) w
 | .fork i x r,a,w=>wpOp P ops Q i (λa' w'=>S w'/\HT P ops Q S K x a' w') a w/\HT P ops Q S K r a w
 | .none,_,_=>True
 | .tail,a,w=>wpList P ops Q (ops.toList.drop K) a w
def JQ {P:Program} {ops:Array Oper} {Q:Exit->Act->wD->Prop} {S:wD->Prop} {K:Nat}:∀(f k:Nat) (G:Array Bool) (a:Act) (w:wD),K<=k->f+k=ops.size->EZ ops f k G=true->wpList P ops Q (ops.toList.drop k) a w->G2 P ops Q S K f G a w
 | 0,k,G,a,w,V,X,M,h=>by
  have:ops.toList.drop k=[]:=iZ (by simp;omega);rw [this] at h;exact ⟨by simpa [EZ] using M,h⟩
 | f+1,k,G,a,w,V,X,M,h=>by
  simp only [EZ,gD,beq_iff_eq] at M;have N:k<ops.toList.length:=by simp;omega
  rw [gW N] at h;refine ⟨λe=>absurd (M.1.symm.trans e) (by simp),λi O=>?_⟩;rw [M.1] at O;simp only [iB] at O;subst O;have Y:ops[i]? = some ops.toList[i]:=by simp
  unfold wpList at h;unfold wpOp;rw [Y];simp only;split
  . rename_i U;rw [AT U] at h;rcases h with h|h
    . exact gA (Oper.wp_mono (λZ w' h'=>⟨λN=>by omega,JQ f (i+1) _ Z w' (by omega) (by omega) M.2 h'⟩) h)
    . exact gB h
  . rename_i U;rw [AC U] at h;exact ⟨λN=>by omega,JQ f (i+1) _ _ w (by omega) (by omega) M.2 h⟩
def HT.any {P:Program} {ops:Array Oper} {Q:Exit->Act->wD->Prop} {S:wD->Prop} {K:Nat} (hs:Region.noSelect ops=true) (O:∀i,i<K->D5 ops K i) (hQ:C5 Q) :
 ∀(s:Sc) (f:Nat) (G:Array Bool) (a:Act) (w:wD),DC ops G->S w->HT P ops Q S K s a w ->
  (Sc.ok ops K true s f G=true->G2 P ops Q S K f G a w) /\
  (Sc.ok ops K false s f G=true -> ∀i∈s.alts,∀f',f=f'+1->wpOp P ops Q i (λZ w'=>(i<K->S w')/\G2 P ops Q S K f' (G.setIfInBounds i true) Z w') a w)
 | .done,f,G,a,w,N,U,h=>by
  refine ⟨λM=>?_,λM=>by simp [Sc.ok] at M⟩;have X:iH .any ops G=[]:=by simpa [Sc.ok] using M
  cases f with
  | zero=>exact ⟨X,h⟩
  | succ f=>exact ⟨λ_=>h,by rw [X];simp⟩
 | .none,f,G,a,w,N,U,h=>⟨λM=>by simp [Sc.ok] at M,λM=>by simp [Sc.alts]⟩
 | .tail,f,G,a,w,N,U,h=>⟨λM=>by
  simp only [Sc.ok,gD] at M;exact JQ f K G a w (gP _) (iL M.1) M.2 h,λM=>by simp [Sc.ok] at M⟩
 | .pure i r,0,G,a,w,N,U,h=>⟨λM=>by simp [Sc.ok] at M,λM=>by simp [Sc.ok] at M⟩
 | .pure i r,f+1,G,a,w,N,U,h=>⟨λM=>by
  simp only [Sc.ok,gD] at M;obtain ⟨o,v,ho,hy,X⟩:=h;have hi:ops[i]? = some o:=by simpa using ho
  have V:i∈iH .any ops G:=by simpa using M.1.1.2
  exact N9 hi (gV M.1.1.1) (O i (gV M.1.1.1)) (kJ hs) (λc a w=>hQ o.dst v c a w) f G a w N (ln hi M.1.2) V hy U
   ((HT.any hs O hQ r f _ _ w (N.set V) U X).1 M.2),λM=>by simp [Sc.ok] at M⟩
 | .fork i x r,0,G,a,w,N,U,h=>⟨λM=>by simp [Sc.ok] at M,λM=>by simp [Sc.ok] at M⟩
 | .fork i x r,f+1,G,a,w,N,U,h=>by
  have key:i∈iH .any ops G->Sc.ok ops K true x f (G.setIfInBounds i true)=true->wpOp P ops Q i (λZ w'=>(i<K->S w')/\G2 P ops Q S K f (G.setIfInBounds i true) Z w') a w:=λV M=>
   wpOp_mono (λZ w' h'=>⟨λ_=>h'.1,(HT.any hs O hQ x f _ Z w' (N.set V) h'.1 h'.2).1 M⟩) h.1
  have X:=HT.any hs O hQ r (f+1) G a w N U h.2;refine ⟨λM=>?_,λM j Y f' hf=>?_⟩
  . simp only [Sc.ok,gD] at M;obtain ⟨⟨⟨h1,h4⟩,h2⟩,h3⟩:=M;refine ⟨λe=>by rw [e] at h4;simp at h4,λj Y=>?_⟩;have:=iJ.1 h1 j Y;simp only [List.contains_eq_mem,gT,decide_eq_true_eq] at this;rcases this with rfl|aa
    . exact key Y h2
    . exact X.2 h3 j aa f rfl
  . simp only [Sc.ok,gD] at M;obtain rfl:f=f':=by omega
    simp only [Sc.alts,gT] at Y;rcases Y with rfl|Y
    . exact key (by simpa using M.1.1) M.1.2
    . exact X.2 M.2 j Y f rfl
def Lj {α:Type}:Nat->List α->Option (List α)
 | 0,l=>some l
 | _+1,[]=>some []
 | k+1,_::l=>Lj k l
def Gv {α:Type}:∀ {k:Nat} {l m:List α},Lj k l=some m->l.drop k=m
 | 0,l,m,h=>by simpa [Lj] using h
 | _+1,[],m,h=>by simpa [Lj] using h
 | k+1,_::l,m,h=>by simpa using Gv (k:=k) (l:=l) h
def Dp [Decidable p] (h:p):(decide p==true)=true:=by simp [h]
def Ir [Decidable p] (h:¬p):(decide p==true)=false:=by simp [h]
def M9 [Decidable p] (h:p):(decide p==false)=false:=by simp [h]
def Cb [Decidable p] (h:¬p):(decide p==false)=true:=by simp [h]
def G3 {b:Bool} (h:b=true):(b==true)=true:=by simp [h]
def G4 {b:Bool} (h:b=false):(b==true)=false:=by simp [h]
def Na {b:Bool} (h:b=true):(b==false)=false:=by simp [h]
def Nb {b:Bool} (h:b=false):(b==false)=true:=by simp [h]
def TW (P:Program) (n:Nat) (ops:Array Oper) (Q:Exit->Act->wD->Prop) (S:wD->Prop) (K:Nat) (s:Sc) (l:Sl) (w:wD):Prop:= ∀a,Env n l a->HT P ops Q S K s a w
section draws
variable {P:Program} {n:Nat} {ops:Array Oper} {Q:Exit->Act->wD->Prop} {S:wD->Prop} {K:Nat} {l:Sl} {w:wD}
 {d i:Nat} {ty:TypeId} {pos:String} {after:Array Edge} {r x:Sc}
def Ap (S:wD->Prop) (K:Nat) (s:Sc) (hm:P.follows .mixedOrders=true) (N:(Region.noSelect G.toArray&&(jW G.length K||ID G.toArray K)&&Sc.ok G.toArray K true s G.length (kn G.length false))=true) (hQ:C5 Q)
 (h:∀w1,Ext w w1->w1.heap=w.heap->S w1/\TW P n G.toArray Q S K s l w1):CW P n (.region b G.toArray true) Q l w:=by
 unfold CW;intro a ha;simp only [gD] at N;obtain ⟨h1,h2⟩:=h w.drew (Ext.refl w).drew rfl;have U:∀i,i<K->D5 G.toArray K i:=by
  by_cases Y:K<G.toArray.size
  . have M:=N.1.2;simp only [jP] at M;rcases M with M|M
    . have:=gV M;simp at Y;omega
    . exact DN M Y
  . intro i hi O j o _ hj ho _;have aa:j<G.toArray.size:=(Array.getElem?_eq_some_iff.1 ho).1;omega
 have V:DC G.toArray (kn G.length false):=λk o _ M=>by
  exfalso;rcases gQ k G.length with X|X
  . simp [X] at M
  . simp [iN,X] at M
 refine wp_region_any hm (IE (S:=S) (K:=K) _ _ _ _ ?_);have:=(HT.any N.1.1 U hQ s G.length (kn G.length false) a w.drew V h1 (h2 a ha)).1 N.2;simpa using this
def Yb (h:QW n Q .normal l w):TW P n ops Q S K .done l w:=by unfold QW at h;exact h
def Au:TW P n ops Q S K .none l w:=λ_ _=>trivial
def Aq (M:Lj K ops.toList=some G) (h:LW P n ops Q G l w):TW P n ops Q S K .tail l w:=by
 unfold LW at h;intro a N;show wpList P ops Q (ops.toList.drop K) a w;rw [Gv M];exact h a N
def Yc (M:ops.toList[i]? = some ⟨some d,op,ty,pos,after,none⟩) (h:Bm P n l S op ty v) (N:iC d n=true) (k:TW P n ops Q S K r ((d,v)::l) w) :
 TW P n ops Q S K (.pure i r) l w:=by
 unfold Bm at h;exact λa G=>⟨_,v,M,gA ⟨rfl,λw O=>h a w _ _ _ _ G O⟩,k _ (G.put N v)⟩
def Ku {j:Nat} {h b:Bool} (N:ops.toList[i]? = some ⟨some d,op,ty,pos,after,some (j,h)⟩) (O:BM ops j=some dj) (U:iC dj n=true) (V:look l dj=some (.bool b)) (X:(b==h)=true)
 (M:Bm P n l S op ty v) (Y:iC d n=true) (k:TW P n ops Q S K r ((d,v)::l) w):TW P n ops Q S K (.pure i r) l w:=by
 unfold Bm at M;exact λa G=>⟨_,v,N,gA ⟨by rw [F7 G rfl O U V,X],λw Z=>M a w _ _ _ _ G Z⟩,k _ (G.put Y v)⟩
def Lk {j:Nat} {h b:Bool} (M:ops.toList[i]? = some ⟨some d,op,ty,pos,after,some (j,h)⟩) (N:BM ops j=some dj) (O:iC dj n=true) (U:look l dj=some (.bool b)) (V:(b==h)=false)
 (X:iC d n=true) (k:TW P n ops Q S K r ((d,undef)::l) w):TW P n ops Q S K (.pure i r) l w:=λa G=>
 ⟨_,undef,M,gB ⟨by rw [F7 G rfl N O U,V],rfl⟩,k _ (G.put X undef)⟩
def Ax {G:Option Value->wD->Prop} (V:ops.toList[i]? = some ⟨some d,op,ty,pos,after,none⟩) (O:BG P n l op ty w G) (X:iC d n=true)
 (k:∀v w1,G (some v) w1->S w1/\TW P n ops Q S K x ((d,v)::l) w1) (Y:∀w1,¬G none w1) (Z:TW P n ops Q S K r l w):TW P n ops Q S K (.fork i x r) l w:=λa M=>by
 unfold BG at O;refine ⟨?_,Z a M⟩;have N:ops[i]? = some ⟨some d,op,ty,pos,after,none⟩:=by simpa using V
 unfold wpOp;rw [N];simp only;rw [AT (Bd rfl)];left;exact O a _ _ _ _ _ _ M (λv w1 U=>⟨(k v w1 U).1,(k v w1 U).2 _ (M.put X v)⟩) (λw1 h=>absurd h (Y w1))
def Fj {j:Nat} {b:Bool} (X:ops.toList[i]? = some ⟨some d,op,ty,pos,after,some (j,q)⟩) (Y:BM ops j=some dj) (Z:iC dj n=true) (hb:look l dj=some (.bool b)) (hw:(b==q)=true) (U:BG P n l op ty w N) (hd:iC d n=true)
 (k:∀v w1,N (some v) w1->S w1/\TW P n ops Q S K x ((d,v)::l) w1) (k0:∀w1,¬N none w1) (kr:TW P n ops Q S K r l w):TW P n ops Q S K (.fork i x r) l w:=λa M=>by
 unfold BG at U;refine ⟨?_,kr a M⟩;have O:ops[i]? = some ⟨some d,op,ty,pos,after,some (j,q)⟩:=by simpa using X
 unfold wpOp;rw [O];simp only;rw [AT (by rw [F7 M rfl Y Z hb,hw])];left;exact U a _ _ _ _ _ _ M (λv w1 V=>⟨(k v w1 V).1,(k v w1 V).2 _ (M.put hd v)⟩) (λw1 h=>absurd h (k0 w1))
def Vr (V:ops.toList[i]? = some ⟨none,op,ty,pos,after,none⟩) (O:BG P n l op ty w N)
 (k:∀v w1,N v w1->S w1/\TW P n ops Q S K x l w1) (X:TW P n ops Q S K r l w):TW P n ops Q S K (.fork i x r) l w:=λa G=>by
 unfold BG at O;refine ⟨?_,X a G⟩;have M:ops[i]? = some ⟨none,op,ty,pos,after,none⟩:=by simpa using V
 unfold wpOp;rw [M];simp only;rw [AT (Bd rfl)];left;exact O a _ _ _ _ _ _ G (λv w1 U=>⟨(k _ w1 U).1,(k _ w1 U).2 _ G⟩) (λw1 h=>⟨(k _ w1 h).1,(k _ w1 h).2 _ G⟩)
end draws
def SI {tab:Tab} {ty:Nat} (h:fn.results = #[.cell t ty]) (T:TabOk P tab) (M:AB tab ty=some (s,sz)) (O:s.agg=true) (U:look l t=some (.pointer (some ⟨b,0,none⟩))) (V:Blk w b vs) (X:vs.length=sz)
 (Y:R (.returned (.agg vs.toArray)) w):QW n (bodyPost P fn R) .ret l w:=by
 unfold QW;intro a N;refine ⟨N.defers,.agg vs.toArray,?_,Y⟩;have e:(loadVar ty ⟨b,0,none⟩).run P w = .ok (.agg vs.toArray) w:=by
  simp only [gO,hH,gF,loadVar,Cq (T _ _ _ M),O,if_true,B0 (T _ _ _ M)];rw [<-X,Ct V.row]
 have G:=N.has t _ U;simp only [jC] at G;simp [results,h,G,e,asAddr]
attribute [irreducible] TW
section
variable {tab:Tab} {y:Operand} {t':Nat}
def JR {f h:Nat} (T:TabOk P tab) (U:AB tab t=some (.struct M,sz)) (V:M[f]? = some (h,b)) (N:AB tab b=some (s,dj)) (X:s.agg=false)
 (Y:ev l x=some (.agg vs.toArray)) (Z:vs[h]? = some v):Bm P n l S (.field t x f) ty v:=by
 unfold Bm;intro a w aa pos after g ha _;obtain ⟨gs,h1,-,h2⟩:=(T _ _ _ U).under;obtain ⟨fd,h3,h4,h5,-⟩:=h2 f h b V;have e:(Instr.field t (.agg vs.toArray) f).run P w = .ok v w:=by
  simp only [Instr.field,gO,AD h1,gF,h3,asAgg,hH,part,h5,h4,Cq (T _ _ _ N),X];simp [Z]
 simp [execOp,ha.ev Y,e]
def DS {xs:List (Nat×Operand)} {ps:List (Nat×Value)} {G:List (Nat×Nat×lV)} {zt:Ee} (out:lV) (T:TabOk P tab) (Z:Cj P zt)
 (M:AB tab t=some (.struct h,sz)) (N:CC zt t=some zs) (O:IB tab h l xs=some (ps,G)) (U:Ip G zs=some out):Bm P n l S (.build t xs.toArray) ty (.agg out.toArray):=TG T Z M N O U
def BR (us:lV) (T:TabOk P tab) (h:AB tab t=some (s,sz)) (G:s.agg=true) (M:ev l x=some (.pointer (some ⟨b,o,none⟩)))
 (N:∀w,S w->Blk w b vs) (O:jW (o+sz) vs.length=true) (U:(vs.drop o).take sz=us):Bm P n l S (.load t x) ty (.agg us.toArray):=by subst U;exact EC T h G M N O
def Dq (us:lV) (T:TabOk P tab) (h:AB tab t=some (s,sz)) (G:s.agg=true) (M:ev l x=some (.pointer (some ⟨b,o+i,none⟩)))
 (N:∀w,S w->Row w ⟨b,o,none⟩ vs) (O:jW (i+sz) vs.length=true) (U:(vs.drop i).take sz=us):Bm P n l S (.load t x) ty (.agg us.toArray):=by subst U;exact Iq T h G M N O
def Oa {a:Act} (M:Env n l a) {ops:Array Oper} {j:Nat} {h:Bool} {o:Oper} (O:o.guard=some (j,h)) (U:BM ops j=some dj) (V:iC dj n=true) (X:look l dj=some undef) :
 Region.wanted o (yielded ops a.tmps)=false:=by
 have N:=M.has dj _ X;have G:dj<a.tmps.size:=by rw [M.size];exact gV V
 have Y:a.tmps[dj]? = some undef:=by
  rw [jC,jG G] at N;rw [jG G];simpa using N
 have Z:(ops[j]?).bind (·.dst)=some dj:=by simpa [BM] using U
 unfold Region.wanted yielded;simp only [O,Z,lU,Y];cases h<;>rfl
section rules
variable {ops:Array Oper} {rest:List Oper} {d:Nat} {pos:String} {after:Array Edge}
def Dl (vs:lV) (h:ev l x=some v) (G:v.cells=vs.toArray) (M:iC d n=true)
 (k:∀b w1,New w w1 b vs->LW P n ops Q rest ((d,.pointer (some ⟨b,0,none⟩))::l) w1):LW P n ops Q (⟨some d,.box t x,ty,pos,after,none⟩::rest) l w:=Lg h G M k
def Ei {zt:Ee} (vs:lV) (Z:Cj P zt) (h:CC zt t=some vs) (G:iC d n=true)
 (k:∀b w1,New w w1 b vs->LW P n ops Q rest ((d,.pointer (some ⟨b,0,none⟩))::l) w1):LW P n ops Q (⟨some d,.alloc t,ty,pos,after,none⟩::rest) l w:=G0 Z h G k
def JS (us h:lV) (T:TabOk P tab) (G:AB tab t=some (s,sz)) (M:ev l x=some (.pointer (some ⟨b,o,none⟩))) (N:ev l y=some v)
 (O:v.cells=us.toArray) (U:us.length=sz) (V:us.all Value.one=true) (X:Blk w b vs) (Y:jW (o+us.length) vs.length=true) (Z:Ba vs o us=h)
 (k:∀w1,Put w w1 b h->LW P n ops Q rest l w1):LW P n ops Q (⟨none,.store t x y,ty,pos,after,none⟩::rest) l w:=by
 subst Z;exact Lh T G M N O U V X Y k
def De (us:lV) (T:TabOk P tab) (h:AB tab t=some (s,sz)) (G:ev l x=some (.pointer (some ⟨b,0,none⟩))) (M:ev l y=some v)
 (N:v.cells=us.toArray) (O:us.length=sz) (U:us.all Value.one=true) (V:New w0 w b vs) (X:us.length=vs.length)
 (k:∀w1,New w0 w1 b us->LW P n ops Q rest l w1):LW P n ops Q (⟨none,.store t x y,ty,pos,after,none⟩::rest) l w:=I4 T h G M N O U V X k
def C3 {e h len:Nat} {zt:Ee} (cs:lV) (T:TabOk P tab) (Z:Cj P zt) (M:AB tab t=some (.slice e,sz)) (N:AB tab e=some (s,h))
 (O:CC zt e=some zs) (U:Gu l 0 ps=some vs) (V:vs.length=len) (X:vs.all (λv=>kk v.cells.size h)=true) (Y:jW (len*h) 10000=true) (G:iC 0 (len*h)=true) (he:(vs.map (·.cells.toList)).flatten=cs) :
 BG P n l (.buildSlice t len ps.toArray) ty w (N6 w len cs e):=by subst he;exact Rp T Z M N O U V X Y G
def AH (us:lV) (T:TabOk P tab) (h:AB tab t=some (s,sz)) (G:s.agg=true) (M:ev l x=some (.pointer (some ⟨b,o,none⟩)))
 (N:Blk w b vs) (O:jW (o+sz) vs.length=true) (U:(vs.drop o).take sz=us) (V:iC d n=true) (k:LW P n ops Q rest ((d,.agg us.toArray)::l) w):LW P n ops Q (⟨some d,.load t x,ty,pos,after,none⟩::rest) l w:=by
 subst U;exact Rq T h G M N O V k
def BQ (us:lV) (T:TabOk P tab) (h:AB tab t=some (s,sz)) (G:s.agg=true) (M:ev l x=some (.pointer (some ⟨b,o+i,none⟩)))
 (N:Row w ⟨b,o,none⟩ vs) (O:jW (i+sz) vs.length=true) (U:(vs.drop i).take sz=us) (V:iC d n=true) (k:LW P n ops Q rest ((d,.agg us.toArray)::l) w):LW P n ops Q (⟨some d,.load t x,ty,pos,after,none⟩::rest) l w:=by
 subst U;exact Rr T h G M N O V k
def Ch {K:Nat} {r M:Sc} (us G:lV) (N:ops.toList[i]? = some ⟨none,.store t x y,ty,pos,after,none⟩) (T:TabOk P tab) (O:AB tab t=some (s,sz)) (U:ev l x=some (.pointer (some ⟨b,o,none⟩))) (V:ev l y=some v)
 (X:v.cells=us.toArray) (Y:us.length=sz) (Z:us.all Value.one=true) (hb:Blk w b vs) (ho:jW (o+us.length) vs.length=true) (he:Ba vs o us=G)
 (k:∀w1,Put w w1 b G->S w1/\TW P n ops Q S K M l w1) (kr:TW P n ops Q S K r l w):TW P n ops Q S K (.fork i M r) l w:=by
 subst he;exact Vr N (DR T O U V X Y Z hb ho) (λv w1 h=>by cases v with|none=>exact k w1 h|some _=>exact h.elim) kr
def Ds {j:Nat} {h:Bool} (M:BM ops j=some dj) (N:iC dj n=true) (O:look l dj=some undef) (U:iC d n=true)
 (k:LW P n ops Q rest ((d,undef)::l) w):LW P n ops Q (⟨some d,op,ty,pos,after,some (j,h)⟩::rest) l w:=by
 unfold LW at k ⊢;intro a G;unfold wpList;rw [Oa G rfl M N O];exact k _ (G.put U undef)
end rules
def SJ {a b m:Int} (G:ev l x=some (.int .i64 a)) (M:ev l y=some (.int .i64 b)) (N:max a b=m):Bm P n l S (.call ⟨.builtin .max,#[x,y],#[t,t']⟩) ty (.int .i64 m):=by
 unfold Bm;intro c w O pos after g h _;have e:(if b>a then b else a)=m:=by rw [<-N];split<;>omega
 simp [execOp,resolve,invoke,builtin,Builtin.max_,Builtin.max2,h.ev G,h.ev M,e]
def Hv {a b c:Int} (G:ev l x=some (.int k a)) (M:ev l y=some (.int k b)) (N:b≠0) (O:k.wrap (a.tdiv b)=c):Bm P n l S (.binOp .quo t x y t') ty (.int k c):=by
 unfold Bm;intro d w U pos after g h _;subst O;simp [execOp,h.ev G,h.ev M,Bw,binOp,Op.intDiv,N]
def Ob {a b c:Int} (G:ev l x=some (.int k a)) (M:ev l y=some (.int k b)) (N:b≠0) (O:a.tmod b=c):Bm P n l S (.binOp .rem t x y t') ty (.int k c):=by
 unfold Bm;intro d w U pos after g h _;subst O;simp [execOp,h.ev G,h.ev M,Bw,binOp,Op.intDiv,N]
def Jb (i:Int) (h:0<=i) (G:i<=18446744073709551615):IntKind.u64.wrap i=i:=by rw [kN];simp [IntKind.signed,IntKind.bits];omega
end
section
variable {d:Nat} {ops:Array Oper} {rest:List Oper} {pos:String} {after:Array Edge}
def cN (h:LW P n G.toArray (Exit.then (y.wp P Q) Q) G l w):LW P n ops (Exit.then ((Code.seq (.region b G.toArray false) y).wp P Q) Q) [] l w:=Al (Ai (Aj (Ak h)))
def cT (h:CW P n y Q l w):LW P n ops (Exit.then (y.wp P Q) Q) [] l w:=Al (Ai h)
def cS (h:LW P n G.toArray (Exit.then (y.wp P Q) Q) G l w):CW P n (.seq (.region b G.toArray false) y) Q l w:=Aj (Ak h)
def cR {tys:Array TypeId} (M:BU P f=true) (G:evs l xs=some vs) (C:Calls P f vs.toArray w R) (N:∀e w1,R e w1 -> ∃v,e = .returned v) (O:iC d n=true)
 (k:∀v w1,ZL R (some v) w1->LW P n ops Q rest ((d,v)::l) w1):LW P n ops Q (⟨some d,.call ⟨.value (.func f),xs.toArray,tys⟩,ty,pos,after,none⟩::rest) l w:=
 Az (AM M G C N) O k (λ_ h=>h)
def cC {tys:Array TypeId} {v0:Value} {R:wD->Prop} (G:evs l xs=some vs) (C:Calls P f vs.toArray w (λe w'=>e = .returned v0/\R w'))
 (k:∀v w1,ZL (λe w'=>e = .returned v0/\R w') (some v) w1->LW P n ops Q rest ((d,v)::l) w1) (M:BU P f=true:=by kernel_rfl) (N:iC d n=true:=by exact rfl):LW P n ops Q (⟨some d,.call ⟨.value (.func f),xs.toArray,tys⟩,ty,pos,after,none⟩::rest) l w:=
 Az (AM M G C (λ_ _ h=>⟨_,h.1⟩)) N k (λ_ h=>h)
def Mv (h:ev l x=some v:=by exact rfl):Bm P n l S (.move x) ty v:=Aw h
def Pa (h:ev l x=some v:=by exact rfl):Bm P n l S (.assign x) ty v:=Gs h
def Pn {a:Addr} (h:ev l x=some (.pointer (some a)):=by exact rfl):Bm P n l S (.nilCheck x) ty (.pointer (some a)):=BH h
def Pf {s f h:Nat} (N:ev l x=some (.pointer (some ⟨b,o,none⟩)):=by exact rfl) (O:AB tab s=some (.struct M,sz):=by exact rfl) (U:M[f]? = some (h,t):=by exact rfl) :
 Bm prog n l S (.fieldAddr s x f) ty (.pointer (some ⟨b,o+h,none⟩)):=A1 Ac N O U
def Pg {s f:Nat} (M:ev l x=some (.pointer (some ⟨b,o,none⟩)):=by exact rfl) (N:AB tab s=some (.struct h,sz):=by exact rfl) (O:h[f]? = some (0,t):=by exact rfl) :
 Bm prog n l S (.fieldAddr s x f) ty (.pointer (some ⟨b,o,none⟩)):=Cs Ac M N O
def Pi {i:Operand} {e h len cap:Nat} {j:Int} (G:AB tab t=some (.slice e,sz):=by exact rfl) (M:AB tab e=some (s,h):=by exact rfl)
 (N:ev l x=some (.slice (some ⟨b,o,none⟩) len cap):=by exact rfl) (O:ev l i=some (.int k j):=by exact rfl) (U:0<=j:=by omega) (V:j<len:=by omega):Bm prog n l S (.indexAddr t x i) ty (.pointer (some ⟨b,o+j.toNat*h,none⟩)):=AK Ac G M N O U V
def Pz {e:Nat} {p:oA} {len cap:Nat} (h:AB tab t=some (.slice e,sz):=by exact rfl) (G:ev l x=some (.slice p len cap):=by exact rfl):Bm prog n l S (.call ⟨.builtin .len,#[x],#[t]⟩) ty (.int .i64 len):=DM Ac h G
def Py {a:lB} (h:AB tab t=some (.str,sz):=by exact rfl) (G:ev l x=some (str a):=by exact rfl):Bm prog n l S (.call ⟨.builtin .len,#[x],#[t]⟩) ty (.int .i64 a.length):=TH Ac h G
def Px (h:ev l x=some (.tuple vs.toArray):=by exact rfl) (G:vs[i]? = some v:=by exact rfl):Bm P n l S (.extract x i) ty v:=O7 h G
def Pt {t:TypeId} (h:ev l x=some (.bool q):=by exact rfl):Bm P n l S (.unOp .not t x) ty (.bool !q):=Ya h
section
variable {y:Operand} {a b:Int} {t t':TypeId}
def V1 (h:ev l x=some (.int k a):=by exact rfl) (G:ev l y=some (.int k b):=by exact rfl):Bm P n l S (.binOp .eql t x y t') ty (.bool (decide (a=b))):=XW h G
def V2 (h:ev l x=some (.int k a):=by exact rfl) (G:ev l y=some (.int k b):=by exact rfl):Bm P n l S (.binOp .neq t x y t') ty (.bool (decide (a≠b))):=XX h G
def V3 (h:ev l x=some (.int k a):=by exact rfl) (G:ev l y=some (.int k b):=by exact rfl):Bm P n l S (.binOp .lss t x y t') ty (.bool (decide (a<b))):=XY h G
def V4 (h:ev l x=some (.int k a):=by exact rfl) (G:ev l y=some (.int k b):=by exact rfl):Bm P n l S (.binOp .leq t x y t') ty (.bool (decide (a<=b))):=XZ h G
def V5 (h:ev l x=some (.int k a):=by exact rfl) (G:ev l y=some (.int k b):=by exact rfl):Bm P n l S (.binOp .gtr t x y t') ty (.bool (decide (b<a))):=X6 h G
def V6 (h:ev l x=some (.int k a):=by exact rfl) (G:ev l y=some (.int k b):=by exact rfl):Bm P n l S (.binOp .geq t x y t') ty (.bool (decide (b<=a))):=X8 h G
def V7 (G:ev l x=some (.int .i64 a):=by exact rfl) (M:ev l y=some (.int .i64 b):=by exact rfl) (h : -9223372036854775808<=a+b/\a+b<=9223372036854775807:=by omega):Bm P n l S (.binOp .add t x y t') ty (.int .i64 (a+b)):=K7 G M (gG _ h)
end
section
variable {y:Operand} {a b:lB} {t t':TypeId}
def V8 (h:ev l x=some (str a):=by exact rfl) (G:ev l y=some (str b):=by exact rfl):Bm P n l S (.binOp .eql t x y t') ty (.bool (decide (a=b))):=Vn h G
def V9 (h:ev l x=some (str a):=by exact rfl) (G:ev l y=some (str b):=by exact rfl):Bm P n l S (.binOp .neq t x y t') ty (.bool (decide (a≠b))):=Vo h G
end
section
variable {c y:Operand} [Decidable p] {u:Value}
def Qy (h:p) (G:ev l c=some (.bool (decide p)):=by exact rfl) (M:ev l x=some u:=by exact rfl):Bm P n l S (.pick c x y) ty u:=E1 G M h
def Qn (h:¬p) (G:ev l c=some (.bool (decide p)):=by exact rfl) (M:ev l y=some u:=by exact rfl):Bm P n l S (.pick c x y) ty u:=FF G M h
def Oc (h:ev l c=some (.bool (decide p)):=by exact rfl) (G:ev l x=some u:=by exact rfl) (M:p:=by assumption):Bm P n l S (.pick c x y) ty u:=E1 h G M
def MU (h:ev l c=some (.bool (decide p)):=by exact rfl) (G:ev l y=some u:=by exact rfl) (M:¬p:=by assumption):Bm P n l S (.pick c x y) ty u:=FF h G M
def ZN (h:ev l c=some (.bool (decide p)):=by exact rfl) (G:ev l x=some u:=by exact rfl) (M:p:=by decide):Bm P n l S (.pick c x y) ty u:=E1 h G M
def ZO (h:ev l c=some (.bool (decide p)):=by exact rfl) (G:ev l y=some u:=by exact rfl) (M:¬p:=by decide):Bm P n l S (.pick c x y) ty u:=FF h G M
def Vs (h:ev l c=some (.bool (decide p)):=by exact rfl) (G:ev l x=some u:=by exact rfl) (M:p:=by omega):Bm P n l S (.pick c x y) ty u:=E1 h G M
def MV (h:ev l c=some (.bool (decide p)):=by exact rfl) (G:ev l y=some u:=by exact rfl) (M:¬p:=by omega):Bm P n l S (.pick c x y) ty u:=FF h G M
end
def Pl (h:Blk w b vs) (G:AB tab t=some (s,sz):=by exact rfl) (M:s.agg=false:=by exact rfl) (N:ev l x=some (.pointer (some ⟨b,o,none⟩)):=by exact rfl)
 (O:vs[o]? = some v:=by exact rfl):Bm prog n l (λx=>x=w) (.load t x) ty v:=Ar Ac G M N (λV U=>by subst U;exact h.cell O)
def Pw (h:Row w ⟨b,o,none⟩ vs) (G:AB tab t=some (s,sz):=by exact rfl) (M:s.agg=false:=by exact rfl) (N:ev l x=some (.pointer (some ⟨b,o+i,none⟩)):=by exact rfl)
 (O:vs[i]? = some v:=by exact rfl):Bm prog n l (λx=>x=w) (.load t x) ty v:=Ar Ac G M N (λV U=>by subst U;exact h.at O)
def MR (h:Row w ⟨b,o,none⟩ vs) (G:AB tab t=some (s,sz):=by exact rfl) (M:s.agg=false:=by exact rfl) (N:ev l x=some (.pointer (some ⟨b,o,none⟩)):=by exact rfl)
 (O:vs[0]? = some v:=by exact rfl):Bm prog n l (λx=>x=w) (.load t x) ty v:=Ar Ac G M N (λV U=>by subst U;exact h.at0 O)
def Yd (h:Row w ⟨b,o,none⟩ vs) (G:AB tab t=some (s,sz):=by exact rfl) (M:s.agg=true:=by exact rfl) (N:ev l x=some (.pointer (some ⟨b,o,none⟩)):=by exact rfl)
 (O:vs.length=sz:=by exact rfl):Bm prog n l (λx=>x=w) (.load t x) ty (.agg vs.toArray):=Bt Ac G M N (λV U=>by subst U;exact h) O
section

def Db (G:Blk w0 b vs) (M:AB tab t=some (s,sz):=by exact rfl) (N:s.agg=false:=by exact rfl) (O:ev l x=some (.pointer (some ⟨b,o,none⟩)):=by exact rfl) (U:vs[o]? = some v:=by exact rfl) :
 Bm prog n l (λh=>Ext w0 h) (.load t x) ty v:=Ar Ac M N O (λh V=>Blk.cell (Blk.ext G V) U)
def Dr (G:Row w0 ⟨b,o,none⟩ vs) (M:AB tab t=some (s,sz):=by exact rfl) (N:s.agg=false:=by exact rfl) (O:ev l x=some (.pointer (some ⟨b,o+i,none⟩)):=by exact rfl) (U:vs[i]? = some v:=by exact rfl) :
 Bm prog n l (λh=>Ext w0 h) (.load t x) ty v:=Ar Ac M N O (λh V=>Row.at (Row.ext G V) U)
end
def C1 (h:Bm P n l (λx=>x=w) op ty v) (k:LW P n ops Q rest ((d,v)::l) w) (G:iC d n=true:=by exact rfl):LW P n ops Q (⟨some d,op,ty,pos,after,none⟩::rest) l w:=CB h G k
def cM (h:ev l x=some v) (k:LW P n ops Q rest ((d,v)::l) w) (G:iC d n=true:=by exact rfl):LW P n ops Q (⟨some d,.move x,ty,pos,after,none⟩::rest) l w:=CB (Aw h) G k
def cA (h:ev l x=some v) (k:LW P n ops Q rest ((d,v)::l) w) (G:iC d n=true:=by exact rfl):LW P n ops Q (⟨some d,.assign x,ty,pos,after,none⟩::rest) l w:=CB (Gs h) G k
def Tq {K:Nat} {r:Sc} (h:ops.toList[i]? = some ⟨some d,op,ty,pos,after,none⟩) (G:Bm P n l S op ty v) (k:TW P n ops Q S K r ((d,v)::l) w) (M:iC d n=true:=by exact rfl):TW P n ops Q S K (.pure i r) l w:=Yc h G M k
section
variable {c:Operand} {x:Code} [Decidable p]
def Vt (h:CW P n y Q l w) (G:ev l c=some (.bool (decide p)):=by exact rfl) (M:¬p:=by assumption):CW P n (.cond c x y) Q l w:=M4 G M h
def XU (h:CW P n x Q l w) (G:ev l c=some (.bool (decide p)):=by exact rfl) (M:p:=by assumption):CW P n (.cond c x y) Q l w:=Rm G M h
def MS (h:CW P n y Q l w) (G:ev l c=some (.bool (decide p)):=by exact rfl) (M:¬p:=by decide):CW P n (.cond c x y) Q l w:=M4 G M h
def Vj (h:CW P n x Q l w) (G:ev l c=some (.bool (decide p)):=by exact rfl) (M:p:=by decide):CW P n (.cond c x y) Q l w:=Rm G M h
def Dd (h:CW P n y Q l w) (G:ev l c=some (.bool (decide p)):=by exact rfl) (M:¬p:=by omega):CW P n (.cond c x y) Q l w:=M4 G M h
def Ll (h:CW P n x Q l w) (G:ev l c=some (.bool (decide p)):=by exact rfl) (M:p:=by omega):CW P n (.cond c x y) Q l w:=Rm G M h
end
section
variable {j:Nat} [Decidable p]
def Vk (k:LW P n ops Q (⟨some d,op,ty,pos,after,none⟩::rest) l w) (h:BM ops j=some dj:=by exact rfl) (G:iC dj n=true:=by exact rfl) (M:look l dj=some (.bool (decide p)):=by exact rfl) (N:p:=by assumption):LW P n ops Q (⟨some d,op,ty,pos,after,some (j,true)⟩::rest) l w:=AP h G M (Dp N) k
def Pc (k:LW P n ops Q (⟨some d,op,ty,pos,after,none⟩::rest) l w) (h:BM ops j=some dj:=by exact rfl) (G:iC dj n=true:=by exact rfl) (M:look l dj=some (.bool (decide p)):=by exact rfl) (N:p:=by decide):LW P n ops Q (⟨some d,op,ty,pos,after,some (j,true)⟩::rest) l w:=AP h G M (Dp N) k
def ZP (k:LW P n ops Q (⟨some d,op,ty,pos,after,none⟩::rest) l w) (h:BM ops j=some dj:=by exact rfl) (G:iC dj n=true:=by exact rfl) (M:look l dj=some (.bool (decide p)):=by exact rfl) (N:p:=by omega):LW P n ops Q (⟨some d,op,ty,pos,after,some (j,true)⟩::rest) l w:=AP h G M (Dp N) k
def E2 (k:LW P n ops Q (⟨some d,op,ty,pos,after,none⟩::rest) l w) (h:BM ops j=some dj:=by exact rfl) (G:iC dj n=true:=by exact rfl) (M:look l dj=some (.bool (decide p)):=by exact rfl) (N:¬p:=by assumption):LW P n ops Q (⟨some d,op,ty,pos,after,some (j,false)⟩::rest) l w:=AP h G M (Cb N) k
def dZ (k:LW P n ops Q (⟨some d,op,ty,pos,after,none⟩::rest) l w) (h:BM ops j=some dj:=by exact rfl) (G:iC dj n=true:=by exact rfl) (M:look l dj=some (.bool (decide p)):=by exact rfl) (N:¬p:=by decide):LW P n ops Q (⟨some d,op,ty,pos,after,some (j,false)⟩::rest) l w:=AP h G M (Cb N) k
def Ej (k:LW P n ops Q (⟨some d,op,ty,pos,after,none⟩::rest) l w) (h:BM ops j=some dj:=by exact rfl) (G:iC dj n=true:=by exact rfl) (M:look l dj=some (.bool (decide p)):=by exact rfl) (N:¬p:=by omega):LW P n ops Q (⟨some d,op,ty,pos,after,some (j,false)⟩::rest) l w:=AP h G M (Cb N) k
def EJ (k:LW P n ops Q rest ((d,undef)::l) w) (h:BM ops j=some dj:=by exact rfl) (G:iC dj n=true:=by exact rfl) (M:look l dj=some (.bool (decide p)):=by exact rfl) (N:p:=by assumption) (O:iC d n=true:=by exact rfl):LW P n ops Q (⟨some d,op,ty,pos,after,some (j,false)⟩::rest) l w:=A7 h G M (M9 N) O k
def Vu (k:LW P n ops Q rest ((d,undef)::l) w) (h:BM ops j=some dj:=by exact rfl) (G:iC dj n=true:=by exact rfl) (M:look l dj=some (.bool (decide p)):=by exact rfl) (N:p:=by decide) (O:iC d n=true:=by exact rfl):LW P n ops Q (⟨some d,op,ty,pos,after,some (j,false)⟩::rest) l w:=A7 h G M (M9 N) O k
def fO (k:LW P n ops Q rest ((d,undef)::l) w) (h:BM ops j=some dj:=by exact rfl) (G:iC dj n=true:=by exact rfl) (M:look l dj=some (.bool (decide p)):=by exact rfl) (N:p:=by omega) (O:iC d n=true:=by exact rfl):LW P n ops Q (⟨some d,op,ty,pos,after,some (j,false)⟩::rest) l w:=A7 h G M (M9 N) O k
def Im (k:LW P n ops Q rest ((d,undef)::l) w) (h:BM ops j=some dj:=by exact rfl) (G:iC dj n=true:=by exact rfl) (M:look l dj=some (.bool (decide p)):=by exact rfl) (N:¬p:=by assumption) (O:iC d n=true:=by exact rfl):LW P n ops Q (⟨some d,op,ty,pos,after,some (j,true)⟩::rest) l w:=A7 h G M (Ir N) O k
def XV (k:LW P n ops Q rest ((d,undef)::l) w) (h:BM ops j=some dj:=by exact rfl) (G:iC dj n=true:=by exact rfl) (M:look l dj=some (.bool (decide p)):=by exact rfl) (N:¬p:=by decide) (O:iC d n=true:=by exact rfl):LW P n ops Q (⟨some d,op,ty,pos,after,some (j,true)⟩::rest) l w:=A7 h G M (Ir N) O k
def fK (k:LW P n ops Q rest ((d,undef)::l) w) (h:BM ops j=some dj:=by exact rfl) (G:iC dj n=true:=by exact rfl) (M:look l dj=some (.bool (decide p)):=by exact rfl) (N:¬p:=by omega) (O:iC d n=true:=by exact rfl):LW P n ops Q (⟨some d,op,ty,pos,after,some (j,true)⟩::rest) l w:=A7 h G M (Ir N) O k
end
end
 class LfE (w w':wD) (p:Prop) (q:outParam Prop):Prop where
 up:Ext w w'->p->q
 class LfF (S:nP) (w w':wD) (p:Prop) (s q:outParam Prop):Prop where
 up:Fr S w w'->s->p->q
 class ChE (w w':wD) (g:Prop) (g':outParam Prop):Prop where
 up:Ext w w'->g'->g
 class ChF (S:nP) (w w':wD) (g:Prop) (s g':outParam Prop):Prop where
 up:Fr S w w'->s->g'->g
instance (priority:=low) chE0:ChE w w' g g:=⟨λ_ h=>h⟩
instance (priority:=low) chF0 {S:nP}:ChF S w w' g True g:=⟨λ_ _ h=>h⟩
instance chE1 {q g':Prop} [LfE w w' p q] [ChE w w' g g']:ChE w w' (p->g) (q->g'):=⟨λx h a=>ChE.up x (h (LfE.up x a))⟩
instance chF1 {S:nP} {s q r g':Prop} [LfF S w w' p s q] [ChF S w w' g r g']:ChF S w w' (p->g) (s/\r) (q->g'):=⟨λx s h a=>ChF.up x s.2 (h (LfF.up x s.1 a))⟩
def eE {h:Prop} (x:Ext w w') (k:h) [ChE w w' g h]:g:=ChE.up x k
def eF {S:nP} {s:Prop} (x:Fr S w w') (k:p) [ChF S w w' g s p] (h:s:=by (repeat' apply And.intro)<;>first|exact trivial|omega|(simp only;omega)|exact λk G=>gA G|exact λb N h=>h (gA N)|exact λk G=>gA (λh=>G (gA h))|exact λh=>h (gB ⟨by omega,by omega⟩)|exact λh=>h (gA (gB ⟨by omega,by omega⟩))):g:=ChF.up x h k
section
variable {d:Nat} {ops:Array Oper} {rest:List Oper} {pos:String} {after:Array Edge}
def eB (vs:lV) (k:∀b w1,Blk w1 b vs->Ext w w1->b=w.heap.size->w1.heap.size=b+1->LW P n ops Q rest ((d,.pointer (some ⟨b,0,none⟩))::l) w1) (G:ev l x=some v:=by exact rfl) (M:v.cells=vs.toArray:=by exact rfl) (N:iC d n=true:=by exact rfl) :
 LW P n ops Q (⟨some d,.box t x,ty,pos,after,none⟩::rest) l w:=Dl vs G M N λb w1 h=>k b w1 h.blk h.ext h.pos h.size
def eA (vs:lV) (k:∀b w1,Blk w1 b vs->Ext w w1->b=w.heap.size->w1.heap.size=b+1->LW prog n ops Q rest ((d,.pointer (some ⟨b,0,none⟩))::l) w1) (G:CC zt t=some vs:=by exact rfl) (M:iC d n=true:=by exact rfl) :
 LW prog n ops Q (⟨some d,.alloc t,ty,pos,after,none⟩::rest) l w:=Ei vs Ca G M λb w1 h=>k b w1 h.blk h.ext h.pos h.size
def eI (us:lV) (G:New w0 w b vs) (k:∀w1,Blk w1 b us->Ext w0 w1->b=w0.heap.size->w1.heap.size=b+1->LW prog n ops Q rest l w1) (M:AB tab t=some (s,sz):=by exact rfl)
 (N:ev l x=some (.pointer (some ⟨b,0,none⟩)):=by exact rfl) (O:ev l z=some v:=by exact rfl) (U:v.cells=us.toArray:=by exact rfl) (V:us.length=sz:=by exact rfl) (X:us.all Value.one=true:=by exact rfl) (Y:us.length=vs.length:=by exact rfl) :
 LW prog n ops Q (⟨none,.store t x z,ty,pos,after,none⟩::rest) l w:=De us Ac M N O U V X G Y λw1 h=>k w1 h.blk h.ext h.pos h.size
def eV (us G:lV) (M:Blk w b vs) (k:∀w1,Blk w1 b G->Fr (· = b) w w1->w1.heap.size=w.heap.size->LW prog n ops Q rest l w1) (N:AB tab t=some (s,sz):=by exact rfl)
 (O:ev l x=some (.pointer (some ⟨b,o,none⟩)):=by exact rfl) (U:ev l z=some v:=by exact rfl) (V:v.cells=us.toArray:=by exact rfl) (X:us.length=sz:=by exact rfl) (Y:us.all Value.one=true:=by exact rfl) (Z:jW (o+us.length) vs.length=true:=by exact rfl) (he:Ba vs o us=G:=by exact rfl) :
 LW prog n ops Q (⟨none,.store t x z,ty,pos,after,none⟩::rest) l w:=JS us G Ac N O U V X Y M Z he λw1 h=>k w1 h.blk h.fr h.size
def eS (us:lV) (G:Blk w b vs) (k:∀w1,Blk w1 b us->Fr (· = b) w w1->w1.heap.size=w.heap.size->LW prog n ops Q rest l w1) (M:AB tab t=some (s,sz):=by exact rfl)
 (N:ev l x=some (.pointer (some ⟨b,o,none⟩)):=by exact rfl) (O:ev l z=some v:=by exact rfl) (U:v.cells=us.toArray:=by exact rfl) (V:us.length=sz:=by exact rfl) (X:us.all Value.one=true:=by exact rfl) (Y:jW (o+us.length) vs.length=true:=by exact rfl) (Z:Ba vs o us=us:=by exact rfl) :
 LW prog n ops Q (⟨none,.store t x z,ty,pos,after,none⟩::rest) l w:=JS us us Ac M N O U V X G Y Z λw1 h=>k w1 h.blk h.fr h.size
def eQ {tys:Array TypeId} (G:evs l xs=some vs) (C:Calls P f vs.toArray w R) (k:∀v w1,ZL R (some v) w1->LW P n ops Q rest ((d,v)::l) w1) (M:BU P f=true:=by kernel_rfl) (N:∀e w1,R e w1 -> ∃v,e = .returned v:=by exact λ_ _ h=>h.ret) (O:iC d n=true:=by exact rfl) :
 LW P n ops Q (⟨some d,.call ⟨.value (.func f),xs.toArray,tys⟩,ty,pos,after,none⟩::rest) l w:=cR M G C N O k
def MX (h:AB tab t=some (s,sz):=by exact rfl) (G:s.agg=false:=by exact rfl) (M:ev l x=some (.pointer (some ⟨b,o,none⟩)):=by exact rfl) (N:Blk w b vs:=by assumption)
 (O:vs[o]? = some v:=by exact rfl):Bm prog n l (λx=>x=w) (.load t x) ty v:=Pl N h G M O
def fP (h:AB tab t=some (s,sz):=by exact rfl) (G:s.agg=false:=by exact rfl) (M:ev l x=some (.pointer (some ⟨b,o,none⟩)):=by exact rfl) (N:Row w ⟨b,o,none⟩ vs:=by assumption)
 (O:vs[0]? = some v:=by exact rfl):Bm prog n l (λx=>x=w) (.load t x) ty v:=MR N h G M O
def fQ (h:AB tab t=some (s,sz):=by exact rfl) (G:s.agg=true:=by exact rfl) (M:ev l x=some (.pointer (some ⟨b,o,none⟩)):=by exact rfl) (N:Row w ⟨b,o,none⟩ vs:=by assumption)
 (O:vs.length=sz:=by exact rfl):Bm prog n l (λx=>x=w) (.load t x) ty (.agg vs.toArray):=Yd N h G M O
def fR {M N:Value} (O:AB tab t=some (s,sz):=by exact rfl) (hz:kk sz 3=true:=by exact rfl) (U:s.agg=true:=by exact rfl) (V:ev l x=some (.pointer (some ⟨b,o,none⟩)):=by exact rfl) (X:Blk w b vs:=by assumption)
 (Y:jW (o+sz) vs.length=true:=by exact rfl) (Z:(vs.drop o).take sz=[v,M,N]:=by exact rfl):Bm prog n l (λx=>x=w) (.load t x) ty (.agg ([v,M,N]:lV).toArray):=BR [v,M,N] Ac O U V (λwz h=>by subst h;exact X) Y Z
def fS {M N O:Value} (U:AB tab t=some (s,sz):=by exact rfl) (hz:kk sz 4=true:=by exact rfl) (V:s.agg=true:=by exact rfl) (X:ev l x=some (.pointer (some ⟨b,o,none⟩)):=by exact rfl) (Y:Blk w b vs:=by assumption)
 (Z:jW (o+sz) vs.length=true:=by exact rfl) (he:(vs.drop o).take sz=[v,M,N,O]:=by exact rfl):Bm prog n l (λx=>x=w) (.load t x) ty (.agg ([v,M,N,O]:lV).toArray):=BR [v,M,N,O] Ac U V X (λwz h=>by subst h;exact Y) Z he
def fT {M N O U:Value} (V:AB tab t=some (s,sz):=by exact rfl) (hz:kk sz 5=true:=by exact rfl) (X:s.agg=true:=by exact rfl) (Y:ev l x=some (.pointer (some ⟨b,o,none⟩)):=by exact rfl) (Z:Blk w b vs:=by assumption)
 (hl:jW (o+sz) vs.length=true:=by exact rfl) (he:(vs.drop o).take sz=[v,M,N,O,U]:=by exact rfl):Bm prog n l (λx=>x=w) (.load t x) ty (.agg ([v,M,N,O,U]:lV).toArray):=BR [v,M,N,O,U] Ac V X Y (λwz h=>by subst h;exact Z) hl he
def fU {M N O U V:Value} (X:AB tab t=some (s,sz):=by exact rfl) (hz:kk sz 6=true:=by exact rfl) (Y:s.agg=true:=by exact rfl) (Z:ev l x=some (.pointer (some ⟨b,o,none⟩)):=by exact rfl) (hb:Blk w b vs:=by assumption)
 (hl:jW (o+sz) vs.length=true:=by exact rfl) (he:(vs.drop o).take sz=[v,M,N,O,U,V]:=by exact rfl):Bm prog n l (λx=>x=w) (.load t x) ty (.agg ([v,M,N,O,U,V]:lV).toArray):=BR [v,M,N,O,U,V] Ac X Y Z (λwz h=>by subst h;exact hb) hl he
end
def eY {h:Prop} (x:Ext w w') (k:w.heap.size<=w'.heap.size->h) [ChE w w' g h]:g:=ChE.up x (k x.size)
def eZ {S:nP} {s:Prop} (x:Fr S w w') (k:w.heap.size<=w'.heap.size->p) [ChF S w w' g s p] (h:s:=by (repeat' apply And.intro)<;>first|exact trivial|omega|(simp only;omega)|exact λk G=>gA G|exact λb N h=>h (gA N)|exact λk G=>gA (λh=>G (gA h))|exact λh=>h (gB ⟨by omega,by omega⟩)|exact λh=>h (gA (gB ⟨by omega,by omega⟩))):g:=ChF.up x h (k x.size)
def sB {m:Sl} (h:SG m l:=by repeat (first|exact BE|refine An rfl ?_)):SG m l:=h
def sC {m:Sl} (h:SG m l:=by repeat (first|exact BE|refine An rfl ?_|refine BO rfl (by go_num) ?_)):SG m l:=h
structure Hd (p:Prop):Prop where
 out:p
instance {S:nP} {l:List Nd} {a:oA}:LfE w w' (rowSits S w l a) (rowSits S w' l a):=⟨λx h=>Bk.rowSits.ext h x⟩
instance {S:nP} {t:Nd} {a:oA}:LfE w w' (t.sits S w a) (t.sits S w' a):=⟨λx h=>Bk.Nd.sits.ext h x⟩
instance {S:nP} {l:List Nd} {a:oA}:LfF T w w' (rowSits S w l a) (∀b,S b -> ¬T b) (rowSits S w' l a):=⟨λx s h=>Bk.rowSits.fr h x s⟩
instance {S:nP} {t:Nd} {a:oA}:LfF T w w' (t.sits S w a) (∀b,S b -> ¬T b) (t.sits S w' a):=⟨λx s h=>Bk.Nd.sits.fr h x s⟩
instance:LfE w w' (Blk w b vs) (Blk w' b vs):=⟨λx h=>Bk.Blk.ext h x⟩
instance {S:nP}:LfF S w w' (Blk w b vs) (¬S b) (Blk w' b vs):=⟨λx s h=>Bk.Blk.fr h x s⟩
instance {p:Addr}:LfE w w' (Row w p vs) (Row w' p vs):=⟨λx h=>Bk.Row.ext h x⟩
instance {S:nP} {p:Addr}:LfF S w w' (Row w p vs) (¬S p.block) (Row w' p vs):=⟨λx s h=>Bk.Row.fr h x s⟩
instance {T:TypeId}:LfE w w' (TB w b vs T) (TB w' b vs T):=⟨λx h=>Bk.TB.ext h x⟩
instance {e:Nat} {cs:lV}:LfE w w' (Own w b e sz v n cs) (Own w' b e sz v n cs):=⟨λx h=>Bk.Own.ext h x⟩
instance {S:nP} {e:Nat} {cs:lV}:LfF S w w' (Own w b e sz v n cs) (∀k,v.ownBlock=some k -> ¬S k) (Own w' b e sz v n cs):=⟨λx s h=>Bk.Own.fr h x s⟩
instance {r:Nat} {kvs:List (lB×Value)}:LfE w w' (MapIs w r kvs) (MapIs w' r kvs):=⟨λx h=>Bk.MapIs.ext h x⟩
instance {S:nP} {r:Nat} {kvs:List (lB×Value)}:LfF S w w' (MapIs w r kvs) (¬S r) (MapIs w' r kvs):=⟨λx s h=>Bk.MapIs.fr h x s⟩
instance {a b c:wD}:LfE b c (Ext a b) (Ext a c):=⟨λx h=>Bk.Ext.ext h x⟩
instance {S:nP} {a b c:wD}:LfE b c (Fr S a b) (Fr S a c):=⟨λx h=>Bk.Fr.ext h x⟩
instance {S:nP} {a b c:wD}:LfF S b c (Ext a b) (∀k,S k->a.heap.size<=k) (Ext a c):=⟨λx s h=>Bk.Ext.fr h x s⟩
instance {S:nP} {a b c:wD}:LfF S b c (Fr T a b) (∀k,S k->T k\/a.heap.size<=k) (Fr T a c):=⟨λx s h=>Bk.Fr.fr h x s⟩
instance {S:nP} {T:TypeId}:LfF S w w' (TB w b vs T) (¬S b) (TB w' b vs T):=⟨λx s h=>Bk.TB.fr h x s⟩
def eK {B:Prop} (a:p) (h:Hd p->B:=by
 intro a
 repeat (first
  | refine cS ?_|refine cN ?_|refine cT ?_|refine C1 Mv ?_|refine C1 Pa ?_|refine C1 MX ?_|refine C1 fS ?_|refine C1 fU ?_|refine C1 fR ?_|refine C1 fT ?_|refine C1 fP ?_|refine C1 fQ ?_|refine C1 Pg ?_|refine C1 Pf ?_|refine C1 V1 ?_|refine C1 V8 ?_|refine C1 V2 ?_|refine C1 V3 ?_|refine C1 Pz ?_|refine C1 Py ?_|refine C1 Pn ?_|refine C1 Px ?_|refine C1 Pt ?_|refine C1 Pi ?_|refine C1 V7 ?_|refine C1 V4 ?_|refine C1 V5 ?_|refine C1 V6 ?_|refine C1 V9 ?_
  | refine Aj ?_|refine As ?_|refine Am ?_|refine Ai ?_|refine At ?_|refine AJ ?_|refine Ay ?_|refine AS ?_|refine BF ?_|refine AU ?_|refine Ah ?_|refine Ak ?_|refine Al ?_
  | refine Vt ?_|refine XU ?_|refine Bq rfl ?_|refine AO rfl ?_|refine MS ?_|refine Vj ?_|refine Dd ?_|refine Ll ?_
  | refine Vk ?_|refine E2 ?_|refine EJ ?_|refine Im ?_|refine AP rfl rfl rfl (rfl) ?_|refine A7 rfl rfl rfl (rfl) rfl ?_|refine Pc ?_|refine dZ ?_|refine Vu ?_|refine XV ?_|refine ZP ?_|refine Ej ?_|refine fO ?_|refine fK ?_
  | refine C1 (Bu rfl rfl rfl) ?_|refine C1 (B3 rfl rfl rfl) ?_|refine C1 Oc ?_|refine C1 MU ?_|refine C1 ZN ?_|refine C1 ZO ?_|refine C1 Vs ?_|refine C1 MV ?_)
 exact a.out):B:=h ⟨a⟩
section
variable {d K:Nat} {ops:Array Oper} {r:Sc} {pos:String} {after:Array Edge}
def eD (h:AB tab t=some (s,sz):=by exact rfl) (G:s.agg=false:=by exact rfl) (M:ev l x=some (.pointer (some ⟨b,o,none⟩)):=by exact rfl) (N:Blk w0 b vs:=by assumption) (O:vs[o]? = some v:=by exact rfl) :
 Bm prog n l (λU=>Ext w0 U) (.load t x) ty v:=Db N h G M O
def eN {j:Nat} {h b:Bool} (G:ops.toList[i]? = some ⟨some d,op,ty,pos,after,some (j,h)⟩) (M:Bm P n l S op ty v) (k:TW P n ops Q S K r ((d,v)::l) w) (N:BM ops j=some dj:=by exact rfl) (O:iC dj n=true:=by exact rfl) (U:look l dj=some (.bool b):=by exact rfl) (V:(b==h)=true:=by first|exact Dp ‹_› | exact Cb ‹_› | rfl|exact Dp (by decide)|exact Cb (by decide)|exact Dp (by omega)|exact Cb (by omega)) (X:iC d n=true:=by exact rfl) :
 TW P n ops Q S K (.pure i r) l w:=Ku G N O U V M X k
def eM {j:Nat} {h b:Bool} (G:ops.toList[i]? = some ⟨some d,op,ty,pos,after,some (j,h)⟩) (k:TW P n ops Q S K r ((d,undef)::l) w) (M:BM ops j=some dj:=by exact rfl) (N:iC dj n=true:=by exact rfl) (O:look l dj=some (.bool b):=by exact rfl) (U:(b==h)=false:=by first|exact M9 ‹_› | exact Ir ‹_› | rfl|exact M9 (by decide)|exact Ir (by decide)|exact M9 (by omega)|exact Ir (by omega)) (V:iC d n=true:=by exact rfl) :
 TW P n ops Q S K (.pure i r) l w:=Lk G M N O U V k
end
def eT {B:Prop} (a:p) (h:Hd p->B:=by
 intro a
 repeat (first
  | refine Tq rfl Mv ?_|refine Tq rfl eD ?_|refine Tq rfl Pg ?_|refine Tq rfl Pf ?_|refine Tq rfl Pn ?_|refine Tq rfl V1 ?_|refine Tq rfl V8 ?_|refine Tq rfl V2 ?_|refine Tq rfl V3 ?_|refine Tq rfl Pz ?_|refine Tq rfl Py ?_|refine Tq rfl Px ?_|refine Tq rfl Pt ?_|refine Tq rfl Pa ?_|refine Tq rfl Pi ?_|refine Tq rfl V7 ?_|refine Tq rfl V4 ?_|refine Tq rfl V5 ?_|refine Tq rfl V6 ?_|refine Tq rfl V9 ?_|refine Tq rfl (Bu rfl rfl rfl) ?_|refine Tq rfl (B3 rfl rfl rfl) ?_|refine Tq rfl Oc ?_|refine Tq rfl MU ?_|refine Tq rfl ZN ?_|refine Tq rfl ZO ?_|refine Tq rfl Vs ?_|refine Tq rfl MV ?_
  | refine eN rfl Mv ?_|refine eN rfl eD ?_|refine eN rfl Pg ?_|refine eN rfl Pf ?_|refine eN rfl Pn ?_|refine eN rfl V1 ?_|refine eN rfl V8 ?_|refine eN rfl V2 ?_|refine eN rfl V3 ?_|refine eN rfl Pz ?_|refine eN rfl Py ?_|refine eN rfl Px ?_|refine eN rfl Pt ?_|refine eN rfl Pa ?_|refine eN rfl Pi ?_|refine eN rfl V7 ?_|refine eN rfl V4 ?_|refine eN rfl V5 ?_|refine eN rfl V6 ?_|refine eN rfl V9 ?_|refine eN rfl (Bu rfl rfl rfl) ?_|refine eN rfl (B3 rfl rfl rfl) ?_|refine eN rfl Oc ?_|refine eN rfl MU ?_|refine eN rfl ZN ?_|refine eN rfl ZO ?_|refine eN rfl Vs ?_|refine eN rfl MV ?_
  | refine eM rfl ?_)
 exact a.out):B:=h ⟨a⟩
section
variable {d:Nat} {ops:Array Oper} {rest:List Oper} {pos:String} {after:Array Edge}
def xS {e h len:Nat} {sE:Sk} (cs:lV) (M:AB tab t=some (.slice e,sz):=by exact rfl) (N:AB tab e=some (sE,h):=by exact rfl) (O:CC zt e=some zs:=by exact rfl) (U:Gu l 0 ps=some vs:=by exact rfl) (V:vs.length=len:=by exact rfl)
 (X:vs.all (λv=>kk v.cells.size h)=true:=by exact rfl) (Y:jW (len*h) 10000=true:=by exact rfl) (G:iC 0 (len*h)=true:=by exact rfl) (Z:(vs.map (·.cells.toList)).flatten=cs:=by exact rfl):BG prog n l (.buildSlice t len ps.toArray) ty w (N6 w len cs e):=C3 cs Ac Ca M N O U V X Y G Z
def xB {xs:List (Nat×Operand)} {ps:List (Nat×Value)} {G:List (Nat×Nat×lV)} (out:lV) (M:AB tab t=some (.struct h,sz):=by exact rfl) (N:CC zt t=some zs:=by exact rfl) (O:IB tab h l xs=some (ps,G):=by exact rfl) (U:Ip G zs=some out:=by exact rfl) :
 Bm prog n l S (.build t xs.toArray) ty (.agg out.toArray):=DS out Ac Ca M N O U
def xR (G:R (.returned v) w) (h:fn.results = #[.tmp t]:=by exact rfl) (M:look l t=some v:=by exact rfl):QW n (bodyPost P fn R) .ret l w:=AW h M G
def xT {u:Nat} {x:Value} (G:R (.returned (.tuple #[v,x])) w) (h:fn.results = #[.tmp t,.tmp u]:=by exact rfl) (M:look l t=some v:=by exact rfl) (N:look l u=some x:=by exact rfl):QW n (bodyPost P fn R) .ret l w:=Bc h M N G
def xC {ty:Nat} (G:Blk w b vs) (M:R (.returned (.agg vs.toArray)) w) (h:fn.results = #[.cell t ty]:=by exact rfl) (N:AB tab ty=some (s,sz):=by exact rfl) (O:s.agg=true:=by exact rfl) (U:look l t=some (.pointer (some ⟨b,0,none⟩)):=by exact rfl) (V:vs.length=sz:=by exact rfl):QW n (bodyPost prog fn R) .ret l w:=SI h Ac N O U G V M
def xA (vs:lV) (k:∀b w1,New w w1 b vs->LW prog n ops Q rest ((d,.pointer (some ⟨b,0,none⟩))::l) w1) (h:CC zt t=some vs:=by exact rfl) (G:iC d n=true:=by exact rfl):LW prog n ops Q (⟨some d,.alloc t,ty,pos,after,none⟩::rest) l w:=Ei vs Ca h G k
def xL (us:lV) (h:∀w,S w->Blk w b vs) (G:AB tab t=some (s,sz):=by exact rfl) (M:s.agg=true:=by exact rfl) (N:ev l x=some (.pointer (some ⟨b,o,none⟩)):=by exact rfl) (O:jW (o+sz) vs.length=true:=by exact rfl) (U:(vs.drop o).take sz=us:=by exact rfl) :
 Bm prog n l S (.load t x) ty (.agg us.toArray):=BR us Ac G M N h O U
def xD {p:Addr} (h:∀w,S w->w.cell? p=some v) (G:AB tab t=some (s,sz):=by exact rfl) (M:s.agg=false:=by exact rfl) (N:ev l x=some (.pointer (some p)):=by exact rfl):Bm prog n l S (.load t x) ty v:=Ar Ac G M N h
end
section
variable {d K:Nat} {ops:Array Oper} {x:Sc} {pos:String} {after:Array Edge}
def tC {tys:Array TypeId} (M:ops.toList[i]? = some ⟨some d,.call ⟨.value (.func f),xs.toArray,tys⟩,ty,pos,after,none⟩) (G:evs l xs=some vs) (C:Calls P f vs.toArray w R)
 (k:∀v w1,ZL R (some v) w1->S w1/\TW P n ops Q S K x ((d,v)::l) w1) (N:BU P f=true:=by kernel_rfl) (O:∀e w1,R e w1 -> ∃v,e = .returned v:=by first|exact λ_ _ h=>h.ret|exact λ_ _ h=>⟨_,h.1⟩) (U:iC d n=true:=by exact rfl):TW P n ops Q S K (.fork i x .none) l w:=
 Ax M (AM N G C O) U k (λ_ h=>h) Au
end
section
variable {d:Nat} {ops:Array Oper} {rest:List Oper} {pos:String} {after:Array Edge} {B:Prop}
def kR (G:R (.returned v) w) (a:Hd (QW n (bodyPost P fn R) .ret l w)->B:=by exact λa=>eK a.out) (h:fn.results = #[.tmp t]:=by exact rfl) (M:look l t=some v:=by exact rfl):B:=a ⟨AW h M G⟩
def kT {u:Nat} {x:Value} (G:R (.returned (.tuple #[v,x])) w) (a:Hd (QW n (bodyPost P fn R) .ret l w)->B:=by exact λa=>eK a.out) (h:fn.results = #[.tmp t,.tmp u]:=by exact rfl) (M:look l t=some v:=by exact rfl) (N:look l u=some x:=by exact rfl):B:=a ⟨Bc h M N G⟩
def kX {ty:Nat} (G:Blk w b vs) (M:R (.returned (.agg vs.toArray)) w) (a:Hd (QW n (bodyPost prog fn R) .ret l w)->B:=by exact λa=>eK a.out) (h:fn.results = #[.cell t ty]:=by exact rfl) (N:AB tab ty=some (s,sz):=by exact rfl) (O:s.agg=true:=by exact rfl) (U:look l t=some (.pointer (some ⟨b,0,none⟩)):=by exact rfl) (V:vs.length=sz:=by exact rfl):B:=a ⟨SI h Ac N O U G V M⟩
def kC {tys:Array TypeId} {v0:Value} {R:wD->Prop} (C:Calls P f vs.toArray w (λe w'=>e = .returned v0/\R w')) (k:∀v w1,ZL (λe w'=>e = .returned v0/\R w') (some v) w1->LW P n ops Q rest ((d,v)::l) w1)
 (a:Hd (LW P n ops Q (⟨some d,.call ⟨.value (.func f),xs.toArray,tys⟩,ty,pos,after,none⟩::rest) l w)->B:=by exact λa=>eK a.out) (h:evs l xs=some vs:=by exact rfl) (G:BU P f=true:=by kernel_rfl) (M:iC d n=true:=by exact rfl):B:=a ⟨cC h C k G M⟩
def kQ {tys:Array TypeId} (C:Calls P f vs.toArray w R) (k:∀v w1,ZL R (some v) w1->LW P n ops Q rest ((d,v)::l) w1)
 (a:Hd (LW P n ops Q (⟨some d,.call ⟨.value (.func f),xs.toArray,tys⟩,ty,pos,after,none⟩::rest) l w)->B:=by exact λa=>eK a.out) (G:evs l xs=some vs:=by exact rfl) (M:BU P f=true:=by kernel_rfl) (N:∀e w1,R e w1 -> ∃v,e = .returned v:=by exact λ_ _ h=>h.ret) (O:iC d n=true:=by exact rfl):B:=a ⟨cR M G C N O k⟩
end
def Af (h:p:=by assumption):p:=h
def Ab (h:p:=by omega):p:=h
def C2 (h:p:=by decide):p:=h
def AQ (h:p:=by simp):p:=h
def aFh.{u} {α:Sort u} {p:α->Prop}:∀a,p a->p a:=λ_ h=>h
def fX (h:Ext w w':=by repeat (first|exact Ext.refl _|assumption|refine Ext.alloc ?_ _|refine Ext.drew ?_|refine Ext.trans ?_ ‹_›)):Ext w w':=h
def AR (h:p:=by kernel_rfl):p:=h
def TK (A:Ending->wD->Prop) (B:List PanicEntry->wD->Prop):Ending->wD->Prop:=λe w=>A e w \/ ∃c,e = .panicked c/\B c w
section
variable {ops:Array Oper} {rest:List Oper} {pos:String} {after:Array Edge} {A:Ending->wD->Prop} {B:List PanicEntry->wD->Prop}
def AG {K:Act->wD->Prop} {c:List PanicEntry} (h:QW n Q (.panic c) l w):QW n (Exit.then K Q) (.panic c) l w:=by unfold QW at h ⊢;exact h
def AV {c:List PanicEntry} (h:QW n Q (.panic c) l w):QW n (Exit.inBlock i Q) (.panic c) l w:=by unfold QW at h ⊢;exact h
def AE {c:List PanicEntry} (h:R (.panicked c) w):QW n (bodyPost P fn R) (.panic c) l w:=by unfold QW;exact λ_ G=>⟨G.defers,h⟩
def Vv {t:TypeId} {d:Option Nat} (M:ev l x=some (.iface t v)) (h:QW n Q (.panic [{ v:=.iface t v,recovered:=false }]) l w):LW P n ops Q (⟨d,.panic x,ty,pos,after,none⟩::rest) l w:=by
 unfold LW;unfold QW at h;intro a G;unfold wpList;rw [AT (Bd rfl)];left;have e:(execOp a.eval ⟨d,.panic x,ty,pos,after,none⟩).run P w = .halt (.panic (.iface t v)) w:=by
  simp [execOp,G.ev M,Instr.panic,goPanic,gO,kV,gF]
 unfold km;rw [e];exact h a G
def Nc (P:Program) (n:Nat) (l:Sl) (op:Op) (ty:TypeId) (w:wD) (A:Ending->wD->Prop) (B:List PanicEntry->wD->Prop):Prop:=
 ∀a dst pos after g (next:Act->wD->Prop) (Q:Exit->Act->wD->Prop),Env n l a->(∀v w',A (.returned v) w'->next (a.put dst v) w')->(∀c w',B c w'->Q (.panic c) a w')->(⟨dst,op,ty,pos,after,g⟩:Oper).wp P a w next Q
def AN {tys:Array TypeId} (hb:BU P f=true) (hxs:evs l xs=some vs) (C:Calls P f vs.toArray w (TK A B))
 (hA:∀e w1,A e w1 -> ∃v,e = .returned v):Nc P n l (.call ⟨.value (.func f),xs.toArray,tys⟩) ty w A B:=λa dst pos after g next Q ha hn hp=>by
 have hargs:xs.map a.eval=vs:=ha.evs hxs;have e:(execOp a.eval ⟨dst,.call ⟨.value (.func f),xs.toArray,tys⟩,ty,pos,after,g⟩).run P w = .ok (.enter f vs.toArray) w:=by
  simp only [execOp,resolve,Act.eval,Deferred.ofValue,gO,hH,gF,invoke];rw [DA hb];simp [<-hargs]
 unfold km;rw [e];refine iY C λe w1 h=>?_
 rcases h with h|⟨c,rfl,h⟩
 . obtain ⟨v,rfl⟩:=hA e w1 h;exact hn v w1 h
 . exact hp c w1 h
def A4 {d:Nat} (M:Nc P n l op ty w A B) (O:iC d n=true) (k:∀v w1,A (.returned v) w1->LW P n ops Q rest ((d,v)::l) w1) (N:∀c w1,B c w1->QW n Q (.panic c) l w1) :
 LW P n ops Q (⟨some d,op,ty,pos,after,none⟩::rest) l w:=by
 unfold LW at k ⊢;unfold QW at N;intro a G;unfold wpList;rw [AT (Bd rfl)];left;unfold Nc at M;exact M a _ _ _ _ _ _ G (λv w1 h=>k v w1 h _ (G.put O v)) (λc w1 h=>N c w1 h a G)
def Pd {K d:Nat} {x r:Sc} (V:ops.toList[i]? = some ⟨some d,op,ty,pos,after,none⟩) (N:Nc P n l op ty w A B) (X:iC d n=true)
 (k:∀v w1,A (.returned v) w1->S w1/\TW P n ops Q S K x ((d,v)::l) w1) (O:∀c w1,B c w1->QW n Q (.panic c) l w1) (U:TW P n ops Q S K r l w):TW P n ops Q S K (.fork i x r) l w:=by
 unfold TW at k U ⊢;unfold QW at O;unfold Nc at N;intro a G;refine ⟨?_,U a G⟩;have M:ops[i]? = some ⟨some d,op,ty,pos,after,none⟩:=by simpa using V
 unfold wpOp;rw [M];simp only;rw [AT (Bd rfl)];left;exact N a _ _ _ _ _ _ G (λv w1 h=>⟨(k v w1 h).1,(k v w1 h).2 _ (G.put X v)⟩) (λc w1 h=>O c w1 h a G)
def K9 (P:Program) (t:TypeId):Bool:=match P.underlying t with
 | some (.struct _)=>true
 | _=>false
def Is {t:TypeId} (h:K9 P t=true):∃G,P.underlying t=some (.struct G):=by
 unfold K9 at h;split at h
 . exact ⟨_,Af⟩
 . cases h
def TL {t:TypeId} (h:K9 P t=true) (G:ev l x=some v):Bm P n l S (.makeInterface t x) ty (.iface t v):=by
 obtain ⟨O,h⟩:=Is h;unfold Bm;intro a w M pos after g N _;simp [execOp,N.ev G,Instr.makeInterface,AD h,gF]
def Rs {t u:TypeId} (h:K9 P t=true) (G:ev l x=some (.iface t v)):Bm P n l S (.typeAssert x u t true) ty (.tuple #[v,.bool true]):=by
 obtain ⟨O,h⟩:=Is h;unfold Bm;intro a w M pos after g N _;simp [execOp,N.ev G,Instr.typeAssert,AD h,gF]
def Ek {f:Fn} {cs:List Operand} {us:lV} (G:evs l xs=some us) (M:evs l cs=some vs):Bm P n l S (.makeFunc f xs.toArray cs.toArray) ty (.func f us.toArray vs.toArray):=by
 unfold Bm;intro a w N pos after g h _;have e:=h.evs G;have O:=h.evs M;simp [execOp,Instr.makeFunc,e,O]
variable {tab:Tab}
def Jc {f:Fn} {us vs:Array Value} (T:TabOk P tab) (G:AB tab t=some (.func,sz)) (M:ev l x=some (.func f us vs)):Bm P n l S (.binOp .eql t x (.const .nilFunc) dj) ty (.bool false):=by
 obtain ⟨a,b,c,N⟩:=(T _ _ _ G).under;unfold Bm;intro h w O pos after g U _;have V:(eqGuard .eql t x (.const .nilFunc) (.func f us vs) .nilFunc).run P w = .ok () w:=by unfold eqGuard;simp
 have X:(Op.equal t (.func f us vs) .nilFunc).run P w = .ok false w:=by
  show (Op.equalIn (9999+1) t (.func f us vs) .nilFunc).run P w=_;unfold Op.equalIn;simp [AD N,gF]
 have Y:h.eval (.const .nilFunc) = .nilFunc:=rfl;simp [execOp,U.ev M,Y,V,X,binOp]
def A2 {e:Nat} (T:TabOk P tab) (G:AB tab t=some (.ptr e,sz)) (M:ev l x=some (.pointer (some j))):Bm P n l S (.binOp .eql t x (.const (.pointer none)) b) ty (.bool false):=by
 have N:=(T _ _ _ G).under;unfold Bm;intro h w O pos after g U _;have V:(eqGuard .eql t x (.const (.pointer none)) (.pointer (some j)) (.pointer none)).run P w = .ok () w:=by unfold eqGuard;simp
 have X:(Op.equal t (.pointer (some j)) (.pointer none)).run P w = .ok false w:=by
  show (Op.equalIn (9999+1) t (.pointer (some j)) (.pointer none)).run P w=_;unfold Op.equalIn;simp [AD N,gF]
 have Y:h.eval (.const (.pointer none)) = .pointer none:=rfl;simp [execOp,U.ev M,Y,V,X,binOp]
def Vw {u:Nat} (T:TabOk P tab) (G:AB tab t=some (.iface,sz)) (M:ev l x=some (.iface u v)):Bm P n l S (.binOp .eql t x (.const .nilIface) b) ty (.bool false):=by
 obtain ⟨a,N⟩:=(T _ _ _ G).under;unfold Bm;intro h w O pos after g U _;have V:(eqGuard .eql t x (.const .nilIface) (.iface u v) .nilIface).run P w = .ok () w:=by unfold eqGuard;simp
 have X:(Op.equal t (.iface u v) .nilIface).run P w = .ok false w:=by
  show (Op.equalIn (9999+1) t (.iface u v) .nilIface).run P w=_;unfold Op.equalIn;simp [AD N,gF]
 have Y:h.eval (.const .nilIface) = .nilIface:=rfl;simp [execOp,U.ev M,Y,V,X,binOp]
def TM (T:TabOk P tab) (G:AB tab t=some (.iface,sz)) (M:ev l x=some .nilIface):Bm P n l S (.binOp .eql t x (.const .nilIface) b) ty (.bool true):=by
 obtain ⟨a,N⟩:=(T _ _ _ G).under;unfold Bm;intro h w O pos after g U _;have V:(eqGuard .eql t x (.const .nilIface) .nilIface .nilIface).run P w = .ok () w:=by unfold eqGuard;simp
 have X:(Op.equal t .nilIface .nilIface).run P w = .ok true w:=by
  show (Op.equalIn (9999+1) t .nilIface .nilIface).run P w=_;unfold Op.equalIn;simp [AD N,gF]
 have Y:h.eval (.const .nilIface) = .nilIface:=rfl;simp [execOp,U.ev M,Y,V,X,binOp]
end
def CP (late:List Nat) (i:Nat):Bool:= !(late.contains i)
def Od (ops:Array Oper) (late free0:List Nat) (i:Nat):Prop:= ∀(listed:Array Bool) (j:Nat) (o:Oper),DC ops listed->(∀k∈free0,listed.getD k false=true)->listed.getD j true=false->CP late j=false->ops[j]? = some o->(∀e∈o.after,jM .any e=true->listed.getD e.on false=true)->listed.getD i false=true
def Oe (ops:Array Oper) (late free0:List Nat) (j0:Nat):Bool:=((jQ ops.size).all λi=> !(CP late i)||(List.range' (i+1) (ops.size-(i+1))).any λm=>(kk m j0||CP late m)&&Ja ops m i)&&late.all λj=>free0.contains j||(kk j j0||Ja ops j j0)
def Lm {late free0:List Nat} (h:Oe a late free0 b=true) (hi:i<a.size) (hE:CP late i=true):Od a late free0 i:=by
 simp only [Oe,gD,iJ,lN] at h;obtain ⟨h1,h2⟩:=h;intro G j o aa hF V hj ho O;have af:j∈late:=by
  unfold CP at hj;simpa using hj
 have M:=h2 j af;have M:(kk j b||Ja a j b)=true:=by
  rw [jP] at M;rcases M with N|N
  . exfalso;have U:=hF j (by simpa using N);rcases gQ j G.size with h'|h'
    . simp [h'] at U V;rw [U] at V;cases V
    . simp [iN h'] at U
  . exact N
 simp only [jP] at M;have X:∀o0,a[b]? = some o0 -> ∀e∈o0.after,jM .any e=true->G.getD e.on false=true:=by
  intro o0 Y;rcases M with M|M
  . have ag:=iL M;subst ag;rw [ho] at Y;obtain rfl:=gJ Y;exact O
  . obtain ⟨oj,e',ab,ah,ai,ac⟩:=Eh M;rw [ho] at ab;obtain rfl:=gJ ab;have U:=O e' ah ai;rw [ac] at U;exact aa b o0 Y U
 have key:∀d i,a.size-i<=d->i<a.size->CP late i=true->G.getD i false=true:=by
  intro d
  induction d with
  | zero=>intro i hd hi;omega
  | succ d ih=>
   intro i hd hi hE;have hg:=h1 i hi;rw [hE] at hg;simp only [Bool.not_true,Bool.false_or,lh,lA,gD,jP] at hg;obtain ⟨m,hm,N,hw⟩:=hg;obtain ⟨om,e,ad,he,hb,ae⟩:=Eh hw;rcases N with N|N
   . have aj:=iL N;subst aj;have:=X om ad e he hb;rwa [ae] at this
   . have U:=ih m Ab Ab N;have:=aa m om ad U e he hb;rwa [ae] at this
 exact key _ i (gP _) hi hE
section
variable {ops:Array Oper} {late free0:List Nat} {K:Nat}
def JT (P:Program) (ops:Array Oper) (Q:Exit->Act->wD->Prop) (S S2:wD->Prop) (late:List Nat) (K:Nat):Nat->Array Bool->Act->wD->Prop
 | 0,listed,a,w=>iH .any ops listed=[]/\Q .normal a w
 | fuel+1,listed,a,w=>
  (iH .any ops listed=[]->Q .normal a w) /\
  ∀i∈iH .any ops listed,wpOp P ops Q i (λa' w'=>(CP late i=true->S w')/\(i<K->S2 w')/\JT P ops Q S S2 late K fuel (listed.setIfInBounds i true) a' w') a w
def Ln:∀(G:Nat) (M:Array Bool) (a:Act) (w:wD),JT P ops Q S S2 late K G M a w->wpAny P .any ops Q G M a w
 | 0,_,_,_,h=>h
 | G+1,_,_,_,h=>⟨h.1,λi N=>wpOp_mono (λO w' U=>Ln G _ O w' U.2.2) (h.2 i N)⟩
def MY {G:Array Bool} {j k:Nat} (h:G.getD k false=true):(G.setIfInBounds j true).getD k false=true:=by
 by_cases M:j=k
 . subst M;rcases gQ j G.size with N|N
   . simp [N]
   . simp [iN N] at h
 . rw [getD_set_ne false M];exact h
def Jd {T:wD->Prop} (hi:ops[i]? = some oi) (ai:∀w,S w->S2 w) (hT:(CP late i=true/\Od ops late free0 i/\T=S)\/(CP late i=false/\D5 ops K i/\T=S2)) (ab:∀(j:Nat) (o:Oper) cs b,ops[j]? = some o->o.op≠.select cs b)
 (hQ:∀c a w,Q (.panic c) (a.put oi.dst v) w->Q (.panic c) a w) :
 ∀(M:Nat) (G:Array Bool) (a:Act) (w:wD),DC ops G->(CP late i=true -> ∀k∈free0,G.getD k false=true) ->
  (∀j Z,ops[j]? = some Z->j≠i->G.getD j true=false->(∀e∈Z.after,jM .any e=true->e.on≠i)->oi.apart ops Z=true) ->
  i∈iH .any ops G->YieldsIf P ops T oi v a->T w ->
  JT P ops Q S S2 late K M (G.setIfInBounds i true) (a.put oi.dst v) w->JT P ops Q S S2 late K (M+1) G a w:=by
 have af:∀w,T w->CP late i=true->S w:=λw h he=>by
  rcases hT with ⟨-,-,rfl⟩|⟨h0,-⟩
  . exact h
  . rw [h0] at he;cases he
 have ac:∀w,T w->S2 w:=λw h=>by
  rcases hT with ⟨-,-,rfl⟩|⟨-,-,rfl⟩
  . exact ai w h
  . exact h
 intro M
 induction M with
 | zero=>
  intro G a w _ _ _ hr hy hS H;refine ⟨λh=>(by rw [h] at hr;cases hr),λj hj=>?_⟩;by_cases N:j=i
  . subst N;exact hy.wpOp hi hS ⟨af w hS,λ_=>ac w hS,H⟩
  . have:=ready_mono hj N;rw [H.1] at this;cases this
 | succ M ih=>
  intro G a w ad hF U hr hy hS H;refine ⟨λh=>(by rw [h] at hr;cases hr),λj hj=>?_⟩;by_cases N:j=i
  . subst N;exact hy.wpOp hi hS ⟨af w hS,λ_=>ac w hS,H⟩
  . have h1:=H.2 j (ready_mono hj N);obtain ⟨V,Z,X,Y⟩:=mem_ready.1 hj;have O:¬G.getD i false=true:=λhc=>by
     have h0:=(mem_ready.1 hr).1;rcases gQ i G.size with h'|h'
     . simp [h'] at h0 hc;rw [h0] at hc;cases hc
     . simp [iN h'] at hc
    have aj:∀w',(CP late j=true->S w')->(j<K->S2 w')->T w':=λw' h' h2=>by
     rcases hT with ⟨ak,ae,rfl⟩|⟨-,ae,rfl⟩
     . cases hej:CP late j
       . exact absurd (ae G j Z ad (hF ak) V hej X Y) O
       . exact h' hej
     . rcases gQ j K with h|h
       . exact h2 h
       . exact absurd (ae G j Z ad h X Y) O
    have ag:∀e∈Z.after,jM .any e=true->e.on≠i:=λe he hb al=>O (al▸Y e he hb)
    have h2:=wpOp_putIf X (U j Z X N V ag) (λcs b=>ab i oi cs b hi) (λcs b=>ab j Z cs b X) hQ hy h1;have aa:∀k ok,ops[k]? = some ok->k≠i->(G.setIfInBounds j true).getD k true=false ->
     (∀e∈ok.after,jM .any e=true->e.on≠i)->oi.apart ops ok=true:=λk ok hk am O an=>by
     refine U k ok hk am ?_ an;by_cases ah:j=k
     . subst ah;exact V
     . rw [getD_set_ne true ah] at O;exact O
    refine wpOp_mono (λa' w' h3=>⟨h3.2.1,h3.2.2.1,ih (G.setIfInBounds j true) a' w' (ad.set hj) (λhE k hk=>MY (hF hE k hk)) aa (ready_mono hr (l3 N)) h3.1 (aj w' h3.2.1 h3.2.2.1) ?_⟩) h2;rw [lq _ _ N];exact h3.2.2.2
end
inductive ScE where
 | done
 | pure (i:Nat) (r:ScE)
 | free (i:Nat) (r:ScE)
 | put (i:Nat) (r:ScE)
 | tail (k:Nat)
def ScE.ok (ops:Array Oper) (late free0:List Nat) (K:Nat):ScE->Nat->Array Bool->Bool
 | .done,_,listed=>(iH .any ops listed).isEmpty
 | .pure i r,f+1,listed=>(free0.all λk=>listed.getD k false)&&CP late i&&(iH .any ops listed).contains i&&Region.free .any ops listed i&&ScE.ok ops late free0 K r f (listed.setIfInBounds i true)
 | .free i r,f+1,listed=> !(CP late i)&&iC i K&&(iH .any ops listed).contains i&&Region.free .any ops listed i&&ScE.ok ops late free0 K r f (listed.setIfInBounds i true)
 | .put i r,f+1,listed=> !(CP late i)&&(iH .any ops listed==[i])&&ScE.ok ops late free0 K r f (listed.setIfInBounds i true)
 | .tail k,f,listed=>jW K k&&kk (f+k) ops.size&&(List.range' k f).all (λj=> !(CP late j))&&EZ ops f k listed
 | _,_,_=>false
def HTE (P:Program) (ops:Array Oper) (Q:Exit->Act->wD->Prop) (S S2:wD->Prop):ScE->Act->wD->Prop
 | .done,a,w=>Q .normal a w
 | .pure i r,a,w=>S w /\ ∃o v,ops.toList[i]? = some o/\YieldsIf P ops S o v a/\HTE P ops Q S S2 r (a.put o.dst v) w
 | .free i r,a,w=>S2 w /\ ∃o v,ops.toList[i]? = some o/\YieldsIf P ops S2 o v a/\HTE P ops Q S S2 r (a.put o.dst v) w
 | .put i r,a,w=>wpOp P ops Q i (λa' w'=>S2 w'/\HTE P ops Q S S2 r a' w') a w
 | .tail k,a,w=>wpList P ops Q (ops.toList.drop k) a w
def IF {P:Program} {ops:Array Oper} {Q:Exit->Act->wD->Prop} {S S2:wD->Prop} {late:List Nat} {K:Nat}:∀(f k:Nat) (G:Array Bool) (a:Act) (w:wD),K<=k->f+k=ops.size->(∀j,k<=j->j<k+f->CP late j=false)->EZ ops f k G=true->wpList P ops Q (ops.toList.drop k) a w->JT P ops Q S S2 late K f G a w
 | 0,k,G,a,w,Z,hf,O,M,h=>by
  have:ops.toList.drop k=[]:=iZ (by simp;omega);rw [this] at h;exact ⟨by simpa [EZ] using M,h⟩
 | f+1,k,G,a,w,Z,hf,O,M,h=>by
  simp only [EZ,gD,beq_iff_eq] at M;have U:k<ops.toList.length:=by simp;omega
  rw [gW U] at h;refine ⟨λe=>absurd (M.1.symm.trans e) AQ,λi V=>?_⟩;rw [M.1] at V;simp only [iB] at V;subst V;have Y:=O i (gP _) Ab;have N:∀j,i+1<=j->j<i+1+f->CP late j=false:=λj h1 h2=>O j Ab Ab
  have ho:ops[i]? = some ops.toList[i]:=by simp
  unfold wpList at h;unfold wpOp;rw [ho];simp only;split
  . rename_i X;rw [AT X] at h;rcases h with h|h
    . exact gA (Oper.wp_mono (λa' w' h'=>⟨λe=>(by rw [Y] at e;cases e),λe=>by omega,IF f (i+1) _ a' w' Ab Ab N M.2 h'⟩) h)
    . exact gB h
  . rename_i X;rw [AC X] at h;exact ⟨λe=>(by rw [Y] at e;cases e),λe=>by omega,IF f (i+1) _ _ w Ab Ab N M.2 h⟩
def HTE.any {P:Program} {ops:Array Oper} {Q:Exit->Act->wD->Prop} {S S2:wD->Prop} {late free0:List Nat} {K:Nat} (V:∀w,S w->S2 w) (O:∀i,i<K->D5 ops K i) (hs:Region.noSelect ops=true) (X:∀i,i<ops.size->CP late i=true->Od ops late free0 i) (hQ:C5 Q) :
 ∀(s:ScE) (f:Nat) (G:Array Bool) (a:Act) (w:wD),DC ops G->HTE P ops Q S S2 s a w->ScE.ok ops late free0 K s f G=true->JT P ops Q S S2 late K f G a w
 | .done,f,G,a,w,U,h,M=>by
  have Y:iH .any ops G=[]:=by simpa [ScE.ok] using M
  cases f with
  | zero=>exact ⟨Y,h⟩
  | succ f=>exact ⟨λ_=>h,by rw [Y];simp⟩
 | .tail k,f,G,a,w,U,h,M=>by
  simp only [ScE.ok,gD,iJ,lA] at M;exact IF f k G a w (gV M.1.1.1) (iL M.1.1.2) (λj h1 h2=>by simpa using M.1.2 j ⟨h1,h2⟩) M.2 h
 | .pure i r,0,G,a,w,U,h,M=>by simp [ScE.ok] at M
 | .pure i r,f+1,G,a,w,U,h,M=>by
  simp only [ScE.ok,gD] at M;obtain ⟨hS,o,v,ho,hy,Y⟩:=h;have Z:ops[i]? = some o:=by simpa using ho
  have aa:i<ops.size:=(Array.getElem?_eq_some_iff.1 Z).1;have N:i∈iH .any ops G:=by simpa using M.1.1.2
  exact Jd (T:=S) (free0:=free0) Z V (gA ⟨M.1.1.1.2,X i aa M.1.1.1.2,rfl⟩) (kJ hs) (λc a w=>hQ o.dst v c a w) f G a w U (λ_ k ab=>iJ.1 M.1.1.1.1 k ab) (ln Z M.1.2) N hy hS
   (HTE.any V O hs X hQ r f _ _ w (U.set N) Y M.2)
 | .free i r,0,G,a,w,U,h,M=>by simp [ScE.ok] at M
 | .free i r,f+1,G,a,w,U,h,M=>by
  simp only [ScE.ok,gD,ly] at M;obtain ⟨hS,o,v,ho,hy,Y⟩:=h;have Z:ops[i]? = some o:=by simpa using ho
  have N:i∈iH .any ops G:=by simpa using M.1.1.2
  have ac:=gV M.1.1.1.2;exact Jd (T:=S2) (free0:=free0) Z V (gB ⟨M.1.1.1.1,O i ac,rfl⟩) (kJ hs) (λc a w=>hQ o.dst v c a w) f G a w U (λe=>(by rw [M.1.1.1.1] at e;cases e)) (ln Z M.1.2) N hy hS
   (HTE.any V O hs X hQ r f _ _ w (U.set N) Y M.2)
 | .put i r,0,G,a,w,U,h,M=>by simp [ScE.ok] at M
 | .put i r,f+1,G,a,w,U,h,M=>by
  simp only [ScE.ok,gD,ly,beq_iff_eq] at M;obtain ⟨⟨h1,h2⟩,h3⟩:=M;refine ⟨λe=>(by rw [h2] at e;cases e),λj hj=>?_⟩;rw [h2] at hj;simp only [iB] at hj;subst hj;have N:j∈iH .any ops G:=by rw [h2];simp
  exact wpOp_mono (λa' w' h'=>⟨λe=>(by rw [h1] at e;cases e),λ_=>h'.1,HTE.any V O hs X hQ r f _ a' w' (U.set N) h'.2 h3⟩) h
def Ye (P:Program) (n:Nat) (ops:Array Oper) (Q:Exit->Act->wD->Prop) (S S2:wD->Prop) (s:ScE) (l:Sl) (w:wD):Prop:= ∀a,Env n l a->HTE P ops Q S S2 s a w
section draws
variable {P:Program} {n:Nat} {ops:Array Oper} {Q:Exit->Act->wD->Prop} {S S2:wD->Prop} {l:Sl} {w:wD}
 {d i:Nat} {ty:TypeId} {pos:String} {after:Array Edge} {r:ScE}
def EK (S S2:wD->Prop) (late free0:List Nat) (j0 K:Nat) (s:ScE) (V:∀w,S w->S2 w) (hm:P.follows .mixedOrders=true) (N:(Region.noSelect G.toArray&&(jW G.length K||ID G.toArray K)&&Oe G.toArray late free0 j0&&ScE.ok G.toArray late free0 K s G.length (kn G.length false))=true) (hQ:C5 Q)
 (h:∀w1,Ext w w1->w1.heap=w.heap->Ye P n G.toArray Q S S2 s l w1):CW P n (.region b G.toArray true) Q l w:=by
 unfold CW;intro a ha;simp only [gD] at N;have h2:=h w.drew (Ext.refl w).drew rfl;have X:DC G.toArray (kn G.length false):=λk o _ M=>by
  exfalso;rcases gQ k G.length with Y|Y
  . simp [Y] at M
  . simp [iN,Y] at M
 have O:∀i,i<K->D5 G.toArray K i:=by
  by_cases Z:K<G.toArray.size
  . have M:=N.1.1.2;simp only [jP] at M;rcases M with M|M
    . have:=gV M;simp at Z;omega
    . exact DN M Z
  . intro i hi U j o _ hj ho _;have aa:j<G.toArray.size:=(Array.getElem?_eq_some_iff.1 ho).1;omega
 refine wp_region_any hm (Ln (S:=S) (S2:=S2) (late:=late) (K:=K) _ _ _ _ ?_);have:=HTE.any V O N.1.1.1 (λi hi hE=>Lm N.1.2 hi hE) hQ s G.length (kn G.length false) a w.drew X (h2 a ha) N.2;simpa using this
def Dt {k:Nat} (M:Lj k ops.toList=some G) (h:LW P n ops Q G l w):Ye P n ops Q S S2 (.tail k) l w:=by
 unfold LW at h;intro a N;show wpList P ops Q (ops.toList.drop k) a w;rw [Gv M];exact h a N
def Ao (h:S w) (N:ops.toList[i]? = some ⟨some d,op,ty,pos,after,none⟩) (G:Bm P n l S op ty v) (O:iC d n=true) (k:Ye P n ops Q S S2 r ((d,v)::l) w) :
 Ye P n ops Q S S2 (.pure i r) l w:=by
 unfold Bm at G;exact λa M=>⟨h,_,v,N,gA ⟨rfl,λw h=>G a w _ _ _ _ M h⟩,k _ (M.put O v)⟩
def Bl (h:S2 w) (N:ops.toList[i]? = some ⟨some d,op,ty,pos,after,none⟩) (G:Bm P n l S2 op ty v) (O:iC d n=true) (k:Ye P n ops Q S S2 r ((d,v)::l) w) :
 Ye P n ops Q S S2 (.free i r) l w:=by
 unfold Bm at G;exact λa M=>⟨h,_,v,N,gA ⟨rfl,λw h=>G a w _ _ _ _ M h⟩,k _ (M.put O v)⟩
def Du (V:ops.toList[i]? = some ⟨none,op,ty,pos,after,none⟩) (O:BG P n l op ty w N)
 (k:∀v w1,N v w1->S2 w1/\Ye P n ops Q S S2 r l w1):Ye P n ops Q S S2 (.put i r) l w:=λa G=>by
 unfold BG at O;have M:ops[i]? = some ⟨none,op,ty,pos,after,none⟩:=by simpa using V
 show wpOp P ops Q i _ a w;unfold wpOp;rw [M];simp only;rw [AT (Bd rfl)];left;exact O a _ _ _ _ _ _ G (λv w1 U=>⟨(k _ w1 U).1,(k _ w1 U).2 _ G⟩) (λw1 h=>⟨(k _ w1 h).1,(k _ w1 h).2 _ G⟩)
end draws
attribute [local irreducible] Go.Calls
def Lo (x:Int):Int:=IntKind.i64.wrap x
def Of (op:BinOp) (x y:Int):Int:=match op with
 | .and=>Lo (BitVec.ofInt 64 x &&& BitVec.ofInt 64 y).toNat
 | .or=>Lo (BitVec.ofInt 64 x ||| BitVec.ofInt 64 y).toNat
 | _=>Lo (BitVec.ofInt 64 x ^^^ BitVec.ofInt 64 y).toNat
section
variable {y:Operand} {t':Nat} {a b:Int}
def Yf (G:ev l x=some (.int .i64 a)) (M:ev l y=some (.int .i64 b)):Bm P n l S (.binOp .and t x y t') ty (.int .i64 (Of .and a b)):=by
 unfold Bm;intro d w N pos after g h _;simp only [execOp,h.ev G,h.ev M,gO,Bw,gF,binOp,Op.intBits];rfl
def Z7 (G:ev l x=some (.int .i64 a)) (M:ev l y=some (.int .i64 b)):Bm P n l S (.binOp .or t x y t') ty (.int .i64 (Of .or a b)):=by
 unfold Bm;intro d w N pos after g h _;simp only [execOp,h.ev G,h.ev M,gO,Bw,gF,binOp,Op.intBits];rfl
def SK (G:ev l x=some (.int .i64 a)) (M:ev l y=some (.int .i64 b)):Bm P n l S (.binOp .xor t x y t') ty (.int .i64 (Of .xor a b)):=by
 unfold Bm;intro d w N pos after g h _;simp only [execOp,h.ev G,h.ev M,gO,Bw,gF,binOp,Op.intBits];rfl
def Je (h:ev l x=some (.int .i64 a)) (G:ev l y=some (.int .i64 b)):Bm P n l S (.binOp .add t x y t') ty (.int .i64 (Lo (a+b))):=K7 h G rfl
def Pe (h:ev l x=some (.int .i64 a)) (G:ev l y=some (.int .i64 b)):Bm P n l S (.binOp .sub t x y t') ty (.int .i64 (Lo (a-b))):=AL h G rfl
def Vx (h:ev l x=some (.int .i64 a)) (G:ev l y=some (.int .i64 b)):Bm P n l S (.binOp .mul t x y t') ty (.int .i64 (Lo (a*b))):=Hu h G rfl
def Vy (h:ev l x=some (.int .i64 a)) (G:ev l y=some (.int .i64 b)) (M:b≠0):Bm P n l S (.binOp .quo t x y t') ty (.int .i64 (Lo (a.tdiv b))):=Hv h G M rfl
def Vz (h:ev l x=some (.int .i64 a)) (G:ev l y=some (.int .i64 b)) (M:b≠0):Bm P n l S (.binOp .rem t x y t') ty (.int .i64 (a.tmod b)):=Ob h G M rfl
def Lp (h:ev l x=some (.int .i64 a)):Bm P n l S (.unOp .neg t x) ty (.int .i64 (Lo (0-a))):=by
 unfold Bm;intro d w G pos after g M _;simp [execOp,M.ev h,Op.unary,Op.intArith,Lo]
end
def Vl (b:Bool):Int:=if b then 1 else 0
def TN (k x y:Int):Int×Int:=if y=0 then (0,11) else if k=11 then (Lo (x.tdiv y),0) else (x.tmod y,0)
def El (k x y:Int):Int×Int:=
 if k=8 then (Lo (x+y),0) else if k=9 then (Lo (x-y),0) else if k=10 then (Lo (x*y),0) else if k=11\/k=12 then TN k x y
 else if k=13 then (Of .and x y,0) else if k=14 then (Of .or x y,0) else if k=15 then (Of .xor x y,0)
 else if k=16 then (Vl (decide (x=y)),0) else if k=17 then (Vl (decide (x≠y)),0) else if k=18 then (Vl (decide (x<y)),0)
 else if k=19 then (Vl (decide (x<=y)),0) else if k=20 then (Vl (decide (y<x)),0) else if k=21 then (Vl (decide (y<=x)),0)
 else if k=22 then (Vl (decide (x≠0/\y≠0)),0) else if k=23 then (Vl (decide (x≠0\/y≠0)),0) else (0,7)
def Em (k x:Int):Int×Int:=if k=6 then (Lo (0-x),0) else if k=7 then (Vl (decide (x=0)),0) else (0,7)
def CQ (b:Bool) (w:wD):Calls prog 244 #[.bool b] w λe w'=>e = .returned (.int .i64 (Vl b))/\w=w':=by
 cases b
 . refine Ad func244 ntmps244 rfl rfl ?_;refine kR ?_;exact ⟨rfl,rfl⟩
 . refine Ad func244 ntmps244 rfl rfl ?_;refine kR ?_;exact ⟨rfl,rfl⟩
def Ph (k x y:Int) (w:wD):Calls prog 245 #[.int .u8 k,.int .i64 x,.int .i64 y] w λe w'=>e = .returned (.tuple #[.int .i64 (TN k x y).1,.int .i64 (TN k x y).2])/\w=w':=by
 refine Ad func245 ntmps245 rfl rfl ?_
 focus
  refine eK ?_;refine AA rfl (λh=>?_) (λh=>?_);refine kT ?_;rotate_left;refine eK ?_;refine AA rfl (λG=>?_) (λG=>?_);refine eK ?_;refine C1 (Vy rfl rfl Af) (kT ?_);rotate_left;refine eK ?_;refine C1 (Vz rfl rfl Af) (kT ?_);rotate_left
 all_goals (refine ⟨?_,rfl⟩;unfold TN;simp [*])
def Og (k x:Int) (w:wD):Calls prog 239 #[.int .u8 k,.int .i64 x] w λe w'=>e = .returned (.tuple #[.int .i64 (Em k x).1,.int .i64 (Em k x).2])/\w=w':=by
 refine Ad func239 ntmps239 rfl rfl ?_
 focus
  refine eK ?_;refine AA rfl (λh=>?_) (λh=>?_);refine eK ?_;refine C1 (Lp rfl) (kT ?_);rotate_left;refine eK ?_;refine AA rfl (λG=>?_) (λG=>?_);refine kC (CQ _ _) ?_;rintro _ M ⟨⟨⟩,rfl⟩;refine kT ?_;rotate_left;refine kT ?_;rotate_left
 all_goals (refine ⟨?_,rfl⟩;unfold Em;simp [*])
set_option maxHeartbeats 8000000 in
def SL (k x y:Int) (w:wD):Calls prog 240 #[.int .u8 k,.int .i64 x,.int .i64 y] w λe w'=>e = .returned (.tuple #[.int .i64 (El k x y).1,.int .i64 (El k x y).2])/\w=w':=by
 refine Ad func240 ntmps240 rfl rfl ?_
 focus
  refine eK ?_;refine AA rfl (λc1=>?_) (λc1=>?_);refine eK ?_;refine C1 (Je rfl rfl) (kT ?_);rotate_left;refine eK ?_;refine AA rfl (λc2=>?_) (λc2=>?_);refine eK ?_;refine C1 (Pe rfl rfl) (kT ?_);rotate_left;refine eK ?_;refine AA rfl (λc3=>?_) (λc3=>?_);refine eK ?_;refine C1 (Vx rfl rfl) (kT ?_);rotate_left;refine eK ?_;refine AA rfl (λc4=>?_) (λc4=>?_);refine kC (Ph _ _ _ _) ?_;rintro _ w5 ⟨⟨⟩,rfl⟩;refine kT ?_;rotate_left;refine eK ?_;refine AA rfl (λc6=>?_) (λc6=>?_);refine kC (Ph _ _ _ _) ?_;rintro _ w7 ⟨⟨⟩,rfl⟩;refine kT ?_;rotate_left;refine eK ?_;refine AA rfl (λc8=>?_) (λc8=>?_);refine eK ?_;refine C1 (Yf rfl rfl) (kT ?_);rotate_left;refine eK ?_;refine AA rfl (λc9=>?_) (λc9=>?_);refine eK ?_;refine C1 (Z7 rfl rfl) (kT ?_);rotate_left;refine eK ?_;refine AA rfl (λh=>?_) (λh=>?_);refine eK ?_;refine C1 (SK rfl rfl) (kT ?_);rotate_left;refine eK ?_;refine AA rfl (λG=>?_) (λG=>?_);refine kC (CQ _ _) ?_;rintro _ ab ⟨⟨⟩,rfl⟩;refine kT ?_;rotate_left;refine eK ?_;refine AA rfl (λM=>?_) (λM=>?_);refine kC (CQ _ _) ?_;rintro _ ac ⟨⟨⟩,rfl⟩;refine kT ?_;rotate_left;refine eK ?_;refine AA rfl (λN=>?_) (λN=>?_);refine kC (CQ _ _) ?_;rintro _ ad ⟨⟨⟩,rfl⟩;refine kT ?_;rotate_left;refine eK ?_;refine AA rfl (λO=>?_) (λO=>?_);refine kC (CQ _ _) ?_;rintro _ ae ⟨⟨⟩,rfl⟩;refine kT ?_;rotate_left;refine eK ?_;refine AA rfl (λU=>?_) (λU=>?_);refine kC (CQ _ _) ?_;rintro _ af ⟨⟨⟩,rfl⟩;refine kT ?_;rotate_left;refine eK ?_;refine AA rfl (λV=>?_) (λV=>?_);refine kC (CQ _ _) ?_;rintro _ ag ⟨⟨⟩,rfl⟩;refine kT ?_;rotate_left;refine eK ?_;refine AA rfl (λX=>?_) (λX=>?_);refine eK ?_;refine B4 rfl rfl rfl (λY=>?_) (λY=>?_);refine kC (CQ _ _) ?_;rintro _ ah ⟨⟨⟩,rfl⟩;refine kT ?_;rotate_left;refine kC (CQ _ _) ?_;rintro _ ai ⟨⟨⟩,rfl⟩;refine kT ?_;rotate_left;refine eK ?_;refine AA rfl (λZ=>?_) (λZ=>?_)
  refine eK ?_;refine B4 rfl rfl rfl (λaa=>?_) (λaa=>?_);refine kC (CQ _ _) ?_;rintro _ aj ⟨⟨⟩,rfl⟩;refine kT ?_;rotate_left;refine kC (CQ _ _) ?_;rintro _ ak ⟨⟨⟩,rfl⟩;refine kT ?_;rotate_left;refine kT ?_;rotate_left
 all_goals (refine ⟨?_,rfl⟩;unfold El;simp [*])
structure VD where
 name:lB
 kind:Int
 len:Int
structure PD where
 name:lB
 params:List VD
 body:Nd
structure PG where
 vars:List VD
 procs:List PD
 main:Nd
def D6 (l:List VD) (s:lB):Option VD:=l.reverse.find? (λv=>decide (v.name=s))
def EU (l:List VD) (s:lB):Int:=if (D6 l s).isSome then 22 else 0
def FA (l:List VD) (s:lB) (k:Int):Int:=match D6 l s with
 | none=>6
 | some v=>if v.kind=k then 0 else 7
def CD (ps:List PD) (s:lB):Option Nat:=ps.findIdx? (λp=>decide (p.name=s))
def SM (ps:List PD) (s:lB) (m:Nat):Int:=match CD ps s with
 | none=>6
 | some i=>if m=((ps[i]?.map λp=>p.params.length).getD 0) then 0 else 7
def CH (ps:List PD) (v:List VD) (k:Int) (s:lB) (m:Nat):Int:=
 if k=2 then FA v s 1 else if k=3 then FA v s 2 else if k=4\/k=5\/k=44\/k=45 then FA v s 3
 else if k=54\/k=55 then EU v s else if k=50\/k=51 then SM ps s m else 0
def Pj (ps:List PD) (v:List VD) (s:lB) (m i:Nat) (x:lB):Int:=match D6 v x with
 | none=>6
 | some d=>match (CD ps s).bind (ps[·]?) with
  | none=>0
  | some p=>if m≠p.params.length then 0 else match p.params[i]? with
   | none=>0
   | some q=>if d.kind≠q.kind\/d.len≠q.len then 7 else 0
def CS (k:Int) (s:lB) (i:Nat) (v:List VD):List VD:=
 if k=54/\i=1 then v++[⟨s,1,0⟩] else if k=55/\i=0 then v++[⟨s,3,0⟩] else v
def Oh (e:Int):Nat:=if e=0 then 0 else 1
def FG (ps:List PD) (v:List VD) (s:lB) (m:Nat):Nat->List Nd->Nat
 | _,[]=>0
 | i,t::r=>Oh (Pj ps v s m i t.name)+FG ps v s m (i+1) r
mutual
def Nd.flt (ps:List PD) (v:List VD):Nd->Nat
 | .mk k _ s l=>Oh (CH ps v k s l.length)+if k=50\/k=51 then FG ps v s l.length 0 l else C6 ps v k s 0 l
def C6 (ps:List PD) (v:List VD) (k:Int) (s:lB):Nat->List Nd->Nat
 | _,[]=>0
 | i,t::r=>t.flt ps (CS k s i v)+C6 ps v k s (i+1) r
end
def Ck:List VD->List VD->Nat
 | _,[]=>0
 | acc,v::r=>Oh (EU acc v.name)+Ck (acc++[v]) r
def DK (ps:List PD):Nat->List PD->Nat
 | _,[]=>0
 | i,p::r=>(if (CD ps p.name).getD i<i then 1 else 0)+Ck [] p.params+p.body.flt ps p.params+DK ps (i+1) r
def PG.flt (g:PG):Nat:=Ck [] g.vars+DK g.procs 0 g.procs+g.main.flt g.procs g.vars
def IG (c:UInt8):Bool:=decide (97<=c.toNat)&&decide (c.toNat<=122)
def Jf (c:UInt8):Bool:=decide (48<=c.toNat)&&decide (c.toNat<=57)
def Kv (c:UInt8):Bool:=decide (c.toNat=32)||decide (c.toNat=9)||decide (c.toNat=13)||decide (c.toNat=10)
def Jg (c:UInt8):Bool:=IG c||Jf c
def Pk (c:UInt8):Bool:= !decide (c.toNat=10)
def II (p:UInt8->Bool) (s:lB):Nat:=(s.takeWhile p).length
def keywords:List lB:=[[105,110,116],[97,114,114,97,121],[115,116,97,99,107],[112,114,111,99],[109,97,105,110],[112,117,115,104],[112,111,112],[114,101,97,100],[117,110,114,101,97,100],[119,114,105,116,101],[117,110,119,114,105,116,101],[99,97,108,108],[117,110,99,97,108,108],[105,102],[101,108,115,101],[102,105],[102,114,111,109],[108,111,111,112],[117,110,116,105,108],[108,111,99,97,108],[100,101,108,111,99,97,108],[116,111,112],[115,105,122,101]]
def FH (s:lB):Bool:=keywords.contains s
def pairs:List lB:=[[58,61],[43,61],[45,61],[94,61],[61,61],[33,61],[60,61],[62,61],[38,38],[124,124]]
def singles:lB:=[43,45,42,47,37,38,124,94,33,61,60,62,40,41,123,125,91,93,59,44]
def La (s:lB):Nat:=
 if List.isPrefixOf [60,61,62] s then 3 else if pairs.contains (s.take 2) then 2 else if (s.head?.map (singles.contains ·)).getD false then 1 else 0
def EL:lB->Nat×Nat
 | []=>(3,0)
 | c::r=>if IG c then (1,II Jg (c::r)) else if Jf c then (2,II Jf (c::r)) else if Kv c then (4,II Kv (c::r)) else if c=35 then (5,II Pk (c::r)) else (3,La (c::r))
def Cl (s:lB):Bool:= !s.isEmpty&&decide (s.length<=16)&&((EL s).1==1)&&((EL s).2==s.length) && !FH s
def named (n:Int) (s:lB):Bool:=n==0&&Cl s
def plain (n:Int) (s:lB):Bool:=n==0&&s.isEmpty
def Nd.isExpr:Nd->Bool
 | .mk k n s l=>
  if k=1 then decide (0<=n)&&s.isEmpty&&l.isEmpty
  else if k=2\/k=4\/k=5 then named n s&&l.isEmpty
  else if k=3 then named n s&&match l with|[x]=>x.isExpr|_=>false
  else if k=6\/k=7 then plain n s&&match l with|[x]=>x.isExpr|_=>false
  else if 8<=k/\k<=23 then plain n s&&match l with|[x,y]=>x.isExpr&&y.isExpr|_=>false
  else false
def Nd.isPlace (t:Nd):Bool:=(t.kind==2||t.kind==3)&&t.isExpr
def Nd.isVar (t:Nd):Bool:=t.kind==2&&t.isExpr
mutual
def Nd.isStmt:Nd->Bool
 | .mk k n s l=>
  if k=40\/k=41\/k=42\/k=56 then plain n s&&match l with|[x,y]=>x.isPlace&&y.isExpr|_=>false
  else if k=43 then plain n s&&match l with|[x,y]=>x.isPlace&&y.isPlace|_=>false
  else if k=44\/k=45 then named n s&&match l with|[x]=>x.isPlace|_=>false
  else if 46<=k/\k<=49 then plain n s&&match l with|[x]=>x.isPlace|_=>false
  else if k=50\/k=51 then named n s&&decide (l.length<=8)&&l.all Nd.isVar
  else if k=52\/k=53 then plain n s&&match l with|[x,y,z,u]=>x.isExpr&&y.isBlock&&z.isBlock&&u.isExpr|_=>false
  else if k=54 then named n s&&match l with|[x,y,z]=>x.isExpr&&y.isBlock&&z.isExpr|_=>false
  else if k=55 then named n s&&match l with|[x]=>x.isBlock|_=>false
  else false
def Nd.isBlock:Nd->Bool
 | .mk k n s l=>k==57&&plain n s&&DP l
def DP:List Nd->Bool
 | []=>true
 | t::r=>t.isStmt&&DP r
end
end Bk
