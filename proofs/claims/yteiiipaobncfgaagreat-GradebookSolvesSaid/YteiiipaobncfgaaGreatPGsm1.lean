/- Texts that the proofs of GradebookSolves need. No condition. (Part 1 of 7.) -/
import Derived.Test.YteiiipaobncfgaaGreatRows
import Derived.LaidLaws
import Derived.Shelf.Slices.Clone
import Derived.Shelf.Lays2
import Derived.Shelf.Spec.SlicesInsertGrow
import Derived.Shelf.Slices.Delete
import Derived.Shelf.Slices.Equal
import Derived.Shelf.Lays
import Derived.Test.YteiiipaobncfgaaGreatProg
import Derived.WalkKit
import Derived.Orders
import Derived.OrdersHeld
import Derived.Lib.Hide
import Derived.Laws.AppendOwn
import Derived.IntWalk
import Derived.Lib.ItoaNum
import Derived.Laws.OwnMore
import Derived.Great.BuildSlice
import BkWalk
import Derived.Shelf.Small.Strs
import Derived.Shelf.Strconv.Itoa0
import Derived.Shelf.Strings.Search1
import Derived.Shelf.Strings.Prefix
import Derived.Ground.Names2Prog
import Derived.Lib.LazyBuf
import Derived.RangeFuncRecord
import Derived.RangeFuncLeaves
import Derived.RangeFuncSeq
import Derived.OrdersIn
import Derived.TacticsIn
import Derived.Lib.AtoiErrMem
import Derived.Lib.ConvBytes
import Derived.ArgAppend
import Derived.Laws.StructEq
import Derived.Maps.RangeRun
import Derived.Laws.Cover3
import Derived.Laws.Cover1
import Derived.Recover
import Derived.Laws.IdiomStrings
import Derived.ChangeArms
import Derived.ProofKit
import Derived.OpenShut
import Derived.Deep.DeepHandedRow
import Derived.ChangeMaps5
set_option linter.unusedSimpArgs false
set_option linter.unusedVariables false
set_option linter.defProp false
set_option maxRecDepth 100000
set_option maxHeartbeats 4000000
namespace Bk
abbrev wD := Go.World
abbrev lB := List UInt8
abbrev lV := List Go.Value
abbrev oA := Option Go.Addr
abbrev nP := Nat → Prop
end Bk
namespace Bk
abbrev gN:=@List.getElem?_eq_getElem
abbrev gO:=@Go.Lib.hid
abbrev gR:=@Bool.and_eq_true
abbrev gS:=@List.take_succ_eq_append_getElem
abbrev gT:=@List.getD_eq_getElem?_getD
abbrev gU:=@Option.some.injEq
abbrev gV:=@List.length_cons
abbrev gW:=@List.getElem?_append_left
abbrev gX:=@Go.IntWalk.i64_in
abbrev gZ:=@Option.some.inj
abbrev ic:=@List.getElem?_eq_none
abbrev ig:=@List.getElem_mem
abbrev ii:=@Nat.zero_le
abbrev ij:=@Go.Sem.run_bind
abbrev ik:=@List.getElem?_append_right
abbrev im:=@List.take_length
abbrev io:=@List.mem_cons
abbrev ip:=@Nat.le_refl
abbrev iq:=@List.length_append
abbrev it:=@Nat.lt_or_ge
abbrev iu:=@List.mem_singleton
abbrev iw:=@List.getElem?_cons_zero
abbrev iA:=@Nat.le_of_ble_eq_true
abbrev iB:=@List.drop_eq_getElem_cons
abbrev iC:=@Go.Sem.run_pure
abbrev iF:=@List.mem_of_getElem?
abbrev iG:=@List.length_nil
abbrev iI:=@List.append_assoc
abbrev iJ:=@List.getElem?_map
abbrev iK:=@Go.Value.slice.injEq
abbrev iM:=@Nat.eq_of_beq_eq_true
abbrev iN:=@List.all_eq_true
abbrev iO:=@List.length_take
abbrev iP:=@Nat.add_eq_zero_iff
abbrev iQ:=@Array.getElem?_eq_none
abbrev iR:=@List.map_cons
abbrev iS:=@Bool.false_eq_true
abbrev iT:=@List.cons.injEq
abbrev iU:=@List.mem_cons_of_mem
abbrev iV:=@List.getElem?_set_ne
abbrev iX:=@List.take_append_drop
abbrev iY:=@Nat.zero_add
abbrev iZ:=@List.not_mem_nil
abbrev i6:=@List.mem_append
abbrev i7:=@Go.Calls.mono
abbrev i8:=@List.eq_nil_or_concat
abbrev ja:=@List.take_succ_cons
abbrev jc:=@Bool.or_eq_true
abbrev jd:=@List.drop_eq_nil_of_le
abbrev je:=@List.mem_cons_self
abbrev jf:=@Array.getD_eq_getD_getElem?
abbrev jg:=@Nat.le_trans
abbrev ji:=@Go.World.putObj_heap_other
abbrev jk:=@Array.getElem?_eq_getElem
abbrev jl:=@List.getElem?_set_self
abbrev jm:=@List.map_append
abbrev jn:=@List.isEmpty_iff
abbrev jp:=@List.concat_eq_append
abbrev jq:=@Go.Result.andThen_ok
abbrev js:=@Nat.lt_of_lt_of_le
abbrev ju:=@Array.length_toList
abbrev jw:=@Nat.sub_self
abbrev jx:=@List.length_set
abbrev jz:=@List.mem_of_mem_take
abbrev jC:=@List.cons_append
abbrev jD:=@Nat.mul_le_mul_right
abbrev jE:=@List.drop_zero
abbrev jF:=@List.eq_nil_of_length_eq_zero
abbrev jG:=@List.ext_getElem?
abbrev jH:=@Bool.eq_iff_iff
abbrev jI:=@Option.map_some
abbrev jJ:=@List.nil_append
abbrev jK:=@Except.ok.injEq
abbrev jL:=@List.flatMap_append
abbrev jM:=@Nat.sub_zero
abbrev jN:=@Array.getElem?_modify
abbrev jO:=@List.length_singleton
abbrev jQ:=@Nat.add_mul
abbrev jR:=@List.reverse_cons
abbrev jS:=@List.flatten_cons
abbrev jT:=@Nat.add_zero
abbrev jU:=@List.flatMap_cons
abbrev jV:=@Go.Region.noSelect_spec
abbrev jW:=@Go.Addr.mk.injEq
abbrev jX:=@Option.some_ne_none
abbrev jY:=@List.drop_succ_cons
abbrev jZ:=@Option.bind_some
abbrev kd:=@List.length_drop
abbrev ke:=@List.any_eq_true
abbrev kf:=@Option.getD_some
abbrev kg:=@List.take_zero
abbrev kh:=@Nat.mul_one
abbrev ki:=@List.take_of_length_le
abbrev kj:=@List.getElem_cons_succ
abbrev kk:=@List.getElem?_dropLast
abbrev km:=@List.set_append_right
abbrev kn:=@Nat.lt_trichotomy
abbrev kp:=@List.mem_range
abbrev kq:=@Bool.and_assoc
abbrev ku:=@Prod.mk.inj
abbrev kv:=@List.length_dropLast
abbrev kw:=@List.dropLast_concat
abbrev kx:=@Go.DataW.trod_struct
abbrev ky:=@List.map_nil
abbrev kz:=@List.getElem_map
abbrev kA:=@List.drop_length
abbrev kB:=@List.flatten_append
abbrev kD:=@Go.Region.free_spec
abbrev kE:=@Prod.mk.injEq
abbrev kF:=@Array.setIfInBounds_comm
abbrev kG:=@List.length_map
abbrev kH:=@List.append_nil
abbrev kI:=@List.getElem?_cons_succ
abbrev kJ:=@Bool.not_eq_true'
abbrev kK:=@List.mem_range'_1
abbrev kL:=@List.set_set
abbrev kN:=@Array.getElem?_append
abbrev kO:=@List.singleton_append
abbrev kP:=@List.ext_getElem
abbrev kU:=@List.all_cons
abbrev kV:=@List.findIdx?_append
abbrev kW:=@List.getLast?_concat
abbrev kY:=@Nat.min_eq_left
abbrev kZ:=@Nat.zero_mul
abbrev lf:=@Go.Result.ok.injEq
abbrev lg:=@Array.ext'
abbrev lh:=@List.set_cons_zero
abbrev lj:=@List.findIdx?_cons
abbrev lk:=@List.size_toArray
abbrev lm:=@Go.DataW.trod_int
abbrev ln:=@List.map_toArray
abbrev lp:=@Nat.add_sub_cancel_left
abbrev lq:=@List.getElem?_set_self'
abbrev lr:=@Go.DataW.trod_string
abbrev lu:=@Option.map_eq_some_iff
abbrev lw:=@Ne.symm
abbrev lx:=@Nat.add_comm
abbrev ly:=@List.all_append
abbrev lz:=@Array.getElem?_toList
abbrev lA:=@Go.MapKept.run_getObj_map
abbrev lC:=@List.reverse_reverse
abbrev lD:=@List.replicate_succ'
abbrev lE:=@List.replicate_succ
abbrev lF:=@List.getD_cons_zero
abbrev lG:=@Nat.add_assoc
abbrev lH:=@List.getElem?_take
abbrev lI:=@List.contains_cons
abbrev lJ:=@Nat.ble_eq
abbrev lK:=@Nat.eq_zero_or_pos
abbrev lL:=@Go.MapKept.run_findKey
abbrev lM:=@Go.RowKit.Below.output
abbrev lN:=@List.length_range
abbrev lO:=@List.all_eq_false
abbrev lP:=@List.find?_append
abbrev lQ:=@Option.map_eq_map
abbrev lR:=@Go.DataW.trod_slice
abbrev lS:=@Nat.mul_le_mul
abbrev lT:=@Go.RowKit.Below.tape
abbrev lU:=@Bool.not_true
end Bk
open Go.Proofs.Tryz
open Or renaming inl->gP,inr->gQ
open Go.Result renaming andThen->gY
open Except renaming bind->ir
open Go renaming Calls->iv
open Go.Value renaming slice->iD,int->iW,ownBlock->jB
open Nat renaming blt->iE,ble->jr,beq->jv
open Go.Region renaming ready->iH,binds->jh
open List renaming replicate->iL,range->jj
open Go.Builtin renaming zeroCells->i9
open Go.IntKind renaming wrap->jo
open Array renaming replicate->jt
open Go.Oper renaming wp->jy
open Go.Addr renaming add->jA
open Go.Sem renaming run->jP
namespace Bk
abbrev At:= @if_neg
abbrev AH:= @if_pos
end Bk
namespace Go.Proofs
open Go.Shelf
def Tryz.lays2n15_ren:Go.Shelf.Ren:=⟨fun|15=>88|n=>n,fun|22=>43|3=>3|4=>4|n=>n,fun|n=>n⟩
def Tryz.lays2n15:Go.Proofs.Lays2.n15 prog Tryz.lays2n15_ren:={
 mixed:=by kernel_rfl
 f15:=func88.trans (congrArg some (by kernel_rfl))
 t3:=underlying3
 a3:=isAgg3
 z3:=sizeOf3
 v3:=zeroValue3
 t4:=underlying4
 a4:=isAgg4
 z4:=sizeOf4
 v4:=zeroValue4
 t22:=underlying43
 a22:=isAgg43
 z22:=sizeOf43
 v22:=zeroValue43
 i3:=by kernel_rfl }
def Tryz.lays2n21_ren:Go.Shelf.Ren:=⟨fun|21=>247|27=>248|28=>249|35=>250|39=>251|n=>n,fun|22=>43|3=>3|4=>4|0=>0|n=>n,fun|n=>n⟩
def Tryz.lays2n21:Go.Proofs.Lays2.n21 prog Tryz.lays2n21_ren:={
 mixed:=by kernel_rfl
 f21:=func247.trans (congrArg some (by kernel_rfl))
 f27:=func248.trans (congrArg some (by kernel_rfl))
 f28:=func249.trans (congrArg some (by kernel_rfl))
 f35:=func250.trans (congrArg some (by kernel_rfl))
 f39:=func251.trans (congrArg some (by kernel_rfl))
 t0:=underlying0
 a0:=isAgg0
 z0:=sizeOf0
 v0:=zeroValue0
 t3:=underlying3
 a3:=isAgg3
 z3:=sizeOf3
 v3:=zeroValue3
 t4:=underlying4
 a4:=isAgg4
 z4:=sizeOf4
 v4:=zeroValue4
 t22:=underlying43
 a22:=isAgg43
 z22:=sizeOf43
 v22:=zeroValue43
 i3:=by kernel_rfl }
def Tryz.lays2n23_ren:Go.Shelf.Ren:=⟨fun|23=>246|n=>n,fun|22=>43|3=>3|4=>4|0=>0|n=>n,fun|n=>n⟩
def Tryz.lays2n23:Go.Proofs.Lays2.n23 prog Tryz.lays2n23_ren:={
 mixed:=by kernel_rfl
 f23:=func246.trans (congrArg some (by kernel_rfl))
 t0:=underlying0
 a0:=isAgg0
 z0:=sizeOf0
 v0:=zeroValue0
 t3:=underlying3
 a3:=isAgg3
 z3:=sizeOf3
 v3:=zeroValue3
 t4:=underlying4
 a4:=isAgg4
 z4:=sizeOf4
 v4:=zeroValue4
 t22:=underlying43
 a22:=isAgg43
 z22:=sizeOf43
 v22:=zeroValue43
 i3:=by kernel_rfl }
def Tryz.laysn111_ren:Go.Shelf.Ren:=⟨fun|111=>124|n=>n,fun|28=>43|3=>3|4=>4|0=>0|n=>n,fun|n=>n⟩
def Tryz.laysn111:Go.Proofs.Lays.n111 prog Tryz.laysn111_ren:={
 mixed:=by kernel_rfl
 f111:=func124.trans (congrArg some (by kernel_rfl))
 t0:=underlying0
 a0:=isAgg0
 z0:=sizeOf0
 v0:=zeroValue0
 t3:=underlying3
 a3:=isAgg3
 z3:=sizeOf3
 v3:=zeroValue3
 t4:=underlying4
 a4:=isAgg4
 z4:=sizeOf4
 v4:=zeroValue4
 t28:=underlying43
 a28:=isAgg43
 z28:=sizeOf43
 v28:=zeroValue43 }
end Go.Proofs
namespace Bk
open Go Go.RowKit
def Ext (w w':wD):Prop:=Below w.heap.size w w'
def Ext.refl (w:wD):Ext w w:=Below.refl _ _
def Ext.trans {a b c:wD} (h:Ext a b) (k:Ext b c):Ext a c:=Below.trans h (Below.mono k h.size)
def Ext.alloc {a w:wD} (h:Ext a w) (o:Obj):Ext a (w.alloc o):=Below.alloc h h.size o
def Ext.drew {a w:wD} (h:Ext a w):Ext a w.drew:=Below.drew h
def Ext.size {a w:wD} (h:Ext a w):a.heap.size<=w.heap.size:=Below.size h
def Ext.block {a w:wD} (h:Ext a w) {k:Nat} (G:k<a.heap.size):w.heap[k]? = a.heap[k]? := Below.block h k G
def Ext.cells {a w:wD} (h:Ext a w):∀b o,b<a.heap.size->w.cell? ⟨b,o,none⟩=a.cell? ⟨b,o,none⟩:=λb o G=>Below.cell (p:=⟨b,o,none⟩) h G
def Cs {w:wD} {p:Addr} {v:Value} (h:w.cell? p=some v):p.block<w.heap.size:=by
 unfold World.cell? at h;rcases it p.block w.heap.size with G|G
 . exact G
 . simp [iQ G] at h
def Ext.keep {a w:wD} (h:Ext a w) {b o:Nat} {v:Value} (G:a.cell? ⟨b,o,none⟩=some v):w.cell? ⟨b,o,none⟩=some v:=
 (h.cells b o (Cs G)).trans G
inductive Nd where
 | mk (kind num:Int) (name:lB) (kids:List Nd)
def Nd.kind:Nd->Int | .mk k _ _ _=>k
variable {o e j sz:Nat} {y:Operand} {S:nP} {v:Value} {a:Array Oper} {w w' w0:wD} {vs:lV} {b:Array Edge} {h:Bool} {p:oA} {G:List Oper} {Q:Exit->Act->wD->Prop} {N:Option Value->wD->Prop} {R:Ending->wD->Prop} {P:Program} {x u:Code} {g:Prop} {f:String} {m:Addr} {l:List Nd} {M:List (Nat×Nat)} {k:IntKind} {I:Act->wD->Prop} {S2:wD->Prop} {op:Op} {oi:Oper} {α:Type}
def Nd.num:Nd->Int | .mk _ n _ _=>n
def Nd.name:Nd->lB | .mk _ _ s _=>s
def Nd.kids:Nd->List Nd | .mk _ _ _ l=>l
abbrev str (l:lB):Value:=.string ⟨l.toArray⟩
abbrev Nd.val (t:Nd) (a:oA) (c:Nat):Value:=.agg #[.int .u8 t.kind,.int .i64 t.num,str t.name,.slice a t.kids.length c]
abbrev Nd.cells (t:Nd) (a:oA) (c:Nat):lV:=[.int .u8 t.kind,.int .i64 t.num,str t.name,.slice a t.kids.length c]
mutual
def Nd.sits (S:nP) (w:wD):Nd->oA->Prop
 | .mk _ _ _ l,a=>rowSits S w l a
def rowSits (S:nP) (w:wD):List Nd->oA->Prop
 | [],_=>True
 | t::r,a=> ∃b o a' c,a=some ⟨b,o,none⟩/\S b/\w.cell? ⟨b,o,none⟩=some (.int .u8 t.kind)/\w.cell? ⟨b,o+1,none⟩=some (.int .i64 t.num) /\
  w.cell? ⟨b,o+2,none⟩=some (str t.name)/\w.cell? ⟨b,o+3,none⟩=some (.slice a' t.kids.length c)/\t.sits S w a'/\rowSits S w r (some ⟨b,o+4,none⟩)
end
mutual
def Nd.wf:Nd->Prop
 | .mk k n s l=>0<=k/\k<=255 /\ -9223372036854775808<=n/\n<=9223372036854775807/\s.length<=9223372036854775807/\l.length<=9223372036854775807/\CY l
def CY:List Nd->Prop
 | []=>True
 | t::r=>t.wf/\CY r
end
mutual
def Nd.size:Nd->Nat
 | .mk _ _ _ l=>1+AV l
def AV:List Nd->Nat
 | []=>0
 | t::r=>t.size+AV r
end
def BB (h:CY l):∀t∈l,t.wf:=by
 induction l with
 | nil=>simp
 | cons x r M=>
  simp only [CY] at h;intro t G;rcases io.1 G with rfl|G
  . exact h.1
  . exact M h.2 t G
def Ei {t:Nd} (h:t∈l):t.size<=AV l:=by
 induction l with
 | nil=>cases h
 | cons x r G=>
  simp only [AV];rcases io.1 h with rfl|h
  . omega
  . have:=G h;omega
def Nd.size_pos (t:Nd):1<=t.size:=by cases t;simp [Nd.size]
def FQ {a:oA} (h:rowSits S w l a) {i:Nat} {t:Nd} (G:l[i]? = some t) :
 ∃b o M c,a=some ⟨b,o,none⟩/\S b/\w.cell? ⟨b,o+i*4,none⟩=some (.int .u8 t.kind)/\w.cell? ⟨b,o+i*4+1,none⟩=some (.int .i64 t.num) /\
  w.cell? ⟨b,o+i*4+2,none⟩=some (str t.name)/\w.cell? ⟨b,o+i*4+3,none⟩=some (.slice M t.kids.length c)/\t.sits S w M:=by
 induction l generalizing i a with
 | nil=>simp at G
 | cons x r U=>
  simp only [rowSits] at h;obtain ⟨b,o,M,c,rfl,V,X,Y,Z,h3,hs,hr⟩:=h;cases i with
  | zero=>
   simp at G;subst G;exact ⟨b,o,M,c,rfl,V,X,Y,Z,h3,hs⟩
  | succ i=>
   obtain ⟨b',o',N,c',O,r⟩:=U hr (by simpa using G);simp only [gU,jW] at O;obtain ⟨rfl,rfl,-⟩:=O;refine ⟨b,o,N,c',rfl,r.1,?_⟩;rw [show o+(i+1)*4=o+4+i*4 from by omega];exact r.2
mutual
def Nd.sits_mono {S S':nP} {w w':wD} (hS:∀b,S b->S' b) (hc:∀b o v,S b->w.cell? ⟨b,o,none⟩=some v->w'.cell? ⟨b,o,none⟩=some v) :
 ∀(t:Nd) (a:oA),t.sits S w a->t.sits S' w' a
 | .mk _ _ _ l,a,h=>by
  simp only [Nd.sits] at h ⊢;exact Fk hS hc l a h
def Fk {S S':nP} {w w':wD} (hS:∀b,S b->S' b) (hc:∀b o v,S b->w.cell? ⟨b,o,none⟩=some v->w'.cell? ⟨b,o,none⟩=some v) :
 ∀(l:List Nd) (a:oA),rowSits S w l a->rowSits S' w' l a
 | [],_,_=>by simp [rowSits]
 | t::r,a,h=>by
  simp only [rowSits] at h ⊢;obtain ⟨b,o,a',c,rfl,hb,h0,h1,h2,h3,hs,hr⟩:=h;exact ⟨b,o,a',c,rfl,hS b hb,hc _ _ _ hb h0,hc _ _ _ hb h1,hc _ _ _ hb h2,hc _ _ _ hb h3,Nd.sits_mono hS hc t a' hs,Fk hS hc r _ hr⟩
end
def rowSits.ext {a:oA} (h:rowSits S w l a) (e:Ext w w'):rowSits S w' l a:=
 Fk (λ_ h=>h) (λ_ _ _ _ G=>e.keep G) l a h
def Nd.sits.ext {t:Nd} {a:oA} (h:t.sits S w a) (e:Ext w w'):t.sits S w' a:=
 Nd.sits_mono (λ_ h=>h) (λ_ _ _ _ G=>e.keep G) t a h
structure Fr (S:nP) (w w':wD):Prop where
 os:w'.os=w.os
 tape:w'.tape=w.tape
 output:w'.output=w.output
 size:w.heap.size<=w'.heap.size
 block:∀k,k<w.heap.size -> ¬S k->w'.heap[k]? = w.heap[k]?
def Fr.refl (S:nP) (w:wD):Fr S w w:=⟨rfl,rfl,rfl,ip _,λ_ _ _=>rfl⟩
def Fr.trans {S:nP} {a b c:wD} (h:Fr S a b) (k:Fr S b c):Fr S a c:=
 ⟨k.os.trans h.os,k.tape.trans h.tape,k.output.trans h.output,jg h.size k.size,λi G M=>(k.block i (js G h.size) M).trans (h.block i G M)⟩
def Fr.of_ext {a b:wD} (h:Ext a b):Fr S a b:=⟨Below.os h,lT h,lM h,Below.size h,λk G _=>Below.block h k G⟩
def Fr.setCell {S:nP} {a w:wD} (h:Fr S a w) (p:Addr) (v:Value) (G:S p.block\/a.heap.size<=p.block):Fr S a (w.setCell p v):=by
 refine ⟨h.os,h.tape,h.output,?_,λk N M=>?_⟩
 . have:(w.setCell p v).heap.size=w.heap.size:=by simp [World.setCell]
   rw [this];exact h.size
 . rw [Below.heap_setCell _ _ _ _ (by rintro rfl;rcases G with G|G;exact M G;omega)];exact h.block k N M
def Fr.cells {a:wD} (h:Fr S a w):∀b o,b<a.heap.size -> ¬S b->w.cell? ⟨b,o,none⟩=a.cell? ⟨b,o,none⟩:=
 λb _ G M=>World.cell?_of_block (w:=a) (h.block b G M)
def Fr.keep {a:wD} (h:Fr S a w) {b:Nat} (M:¬S b) (G:a.cell? ⟨b,o,none⟩=some v):w.cell? ⟨b,o,none⟩=some v:=
 (h.cells b o (Cs G) M).trans G
def rowSits.fr {T:nP} {a:oA} (h:rowSits S w l a) (e:Fr T w w') (G:∀b,S b -> ¬T b):rowSits S w' l a:=
 Fk (λ_ h=>h) (λb _ _ M N=>e.keep (G b M) N) l a h
def Nd.sits.fr {T:nP} {t:Nd} {a:oA} (h:t.sits S w a) (e:Fr T w w') (G:∀b,S b -> ¬T b):t.sits S w' a:=
 Nd.sits_mono (λ_ h=>h) (λb _ _ M N=>e.keep (G b M) N) t a h
abbrev Sl:=List (Nat×Value)
def look:Sl->Nat->Option Value
 | [],_=>none
 | (k,v)::r,d=>match jv k d with
  | true=>some v
  | false=>look r d
variable {i r:Nat} {c:Operand} {S:nP} {a:Array Oper} {G:List Oper} {p:oA} {g':Prop} {m:Addr} {zs:lV} {I:Act->wD->Prop} {k:IntKind} {w w' w0:wD}
def ev (l:Sl):Operand->Option Value
 | .tmp t=>look l t
 | .const v=>some v
 | .global g=>some (.pointer (some ⟨g,0,none⟩))
 | .func f=>some (.func (.func f) #[] #[])
def evs (l:Sl):List Operand->Option lV
 | []=>some []
 | x::r=>match ev l x with
  | none=>none
  | some v=>match evs l r with
   | none=>none
   | some vs=>some (v::vs)
structure Env (n:Nat) (l:Sl) (a:Act):Prop where
 size:a.tmps.size=n
 defers:a.defers=[]
 has:∀d v,look l d=some v->a.tmps.getD d undef=v
def Env.ev {n:Nat} {l:Sl} {a:Act} (h:Env n l a) {x:Operand} {v:Value} (G:ev l x=some v):a.eval x=v:=by
 cases x with
 | tmp t=>exact h.has t v G
 | const c=>simpa [Bk.ev,Act.eval] using G
 | global g=>simpa [Bk.ev,Act.eval] using G
 | func f=>simpa [Bk.ev,Act.eval] using G
def Env.evs {n:Nat} {l:Sl} {a:Act} (h:Env n l a):∀ {xs:List Operand} {vs:lV},evs l xs=some vs->xs.map a.eval=vs
 | [],vs,G=>by simp [Bk.evs] at G;simp [G]
 | x::r,vs,G=>by
  simp only [Bk.evs] at G;cases h1:Bk.ev l x with
  | none=>simp [h1] at G
  | some v=>
   cases h2:Bk.evs l r with
   | none=>simp [h1,h2] at G
   | some us=>
    simp [h1,h2] at G;subst G;simp [h.ev h1,Env.evs h h2]
def Ii (k:Nat) (v:Value) (l:Sl) (d:Nat):look ((k,v)::l) d=if k=d then some v else look l d:=by
 simp only [look];by_cases h:k=d
 . subst h;simp
 . have:jv k d=false:=by
    cases hb:jv k d
    . rfl
    . exact absurd (iM hb) h
   rw [this,At h]
def Env.put {n:Nat} {l:Sl} {a:Act} (h:Env n l a) {d:Nat} (N:iE d n=true) (v:Value):Env n ((d,v)::l) (a.put (some d) v):=by
 have M:d<n:=iA N;refine ⟨by simp [Act.put,h.size],by simp [Act.put,h.defers],λk u G=>?_⟩;rw [Ii] at G;simp only [Act.put];by_cases e:d=k
 . subst e;simp at G;subst G;simp [h.size,M]
 . rw [At e] at G;have:=h.has k u G;simpa [Array.getElem?_setIfInBounds_ne e] using this
def TG (m l:Sl):Prop:= ∀d v,look m d=some v->look l d=some v
def Env.sub {n:Nat} {m l:Sl} {a:Act} (h:Env n l a) (G:TG m l):Env n m a:=⟨h.size,h.defers,λd v M=>h.has d v (G d v M)⟩
def BK {l:Sl}:TG [] l:=λ_ _ h=>by simp [look] at h
def An {m l:Sl} {d:Nat} (h:look l d=some v) (r:TG m l):TG ((d,v)::m) l:=λk u G=>by
 rw [Ii] at G;by_cases e:d=k
 . subst e;simp at G;subst G;exact h
 . rw [At e] at G;exact r k u G
def B4 {m l:Sl} {d:Nat} {G:Value} (h:look l d=some G) (e:G=v) (r:TG m l):TG ((d,v)::m) l:=An (e▸h) r
def CW (P:Program) (n:Nat) (c:Code) (Q:Exit->Act->wD->Prop) (l:Sl) (w:wD):Prop:= ∀a,Env n l a->c.wp P Q a w
def LW (P:Program) (n:Nat) (ops:Array Oper) (Q:Exit->Act->wD->Prop) (os:List Oper) (l:Sl) (w:wD):Prop:= ∀a,Env n l a->wpList P ops Q os a w
def QW (n:Nat) (Q:Exit->Act->wD->Prop) (e:Exit) (l:Sl) (w:wD):Prop:= ∀a,Env n l a->Q e a w
section code
variable {n:Nat} {l:Sl}
def CW.sub {c:Code} {m:Sl} (h:CW P n c Q m w) (G:TG m l):CW P n c Q l w:=λa M=>h a (M.sub G)
def Aj (h:CW P n x (Exit.then (u.wp P Q) Q) l w):CW P n (.seq x u) Q l w:=λa G=>wp_seq (h a G)
def bD (I:Act->wD->Prop) (h:CW P n x (Exit.then I Q) l w) (k:∀a w,I a w->u.wp P Q a w):CW P n (.seq x u) Q l w:=λa G=>
 wp_seq (Code.wp_mono (λe a w q=>by cases e<;>first|exact k _ _ q|exact q) (h a G))
def Ai (h:CW P n x Q l w):QW n (Exit.then (x.wp P Q) Q) .normal l w:=h
def Uu (h:∀a,Env n l a->I a w):QW n (Exit.then I Q) .normal l w:=h
def As {K:Act->wD->Prop} (h:QW n Q .ret l w):QW n (Exit.then K Q) .ret l w:=h
def Az {K:Act->wD->Prop} (h:QW n Q (.exit i) l w):QW n (Exit.then K Q) (.exit i) l w:=h
def Ao (h:QW n Q .normal l w):CW P n .skip Q l w:=λa G=>wp_skip (h a G)
def B9 (h:QW n Q (.exit i) l w):CW P n (.exit i) Q l w:=λa G=>wp_exit (h a G)
def AR (h:QW n Q .ret l w):CW P n .ret Q l w:=λa G=>wp_ret (h a G)
def Au {c:Code} (h:CW P n c (Exit.inBlock i Q) l w):CW P n (.block i c) Q l w:=λa G=>wp_block (h a G)
def Ah (h:QW n Q .normal l w):QW n (Exit.inBlock i Q) .normal l w:=h
def AJ (h:QW n Q .ret l w):QW n (Exit.inBlock i Q) .ret l w:=h
def A0 (h:QW n Q .normal l w):QW n (Exit.inBlock i Q) (.exit i) l w:=λa G=>by simp only [Exit.inBlock,if_true];exact h a G
def BO (M:ev l c=some (.bool true)) (h:CW P n x Q l w):CW P n (.cond c x u) Q l w:=λa G=>wp_cond_true (G.ev M) (h a G)
def Ba (M:ev l c=some (.bool false)) (h:CW P n u Q l w):CW P n (.cond c x u) Q l w:=λa G=>wp_cond_false (G.ev M) (h a G)
def FR {b:Bool} (G:ev l c=some (.bool b)) (M:b=true->CW P n x Q l w) (N:b=false->CW P n u Q l w):CW P n (.cond c x u) Q l w:=
 λa h=>wp_cond_split (h.ev G) (λe=>M e a h) (λe=>N e a h)
def Ay {p:Prop} [Decidable p] (h:ev l c=some (.bool (decide p))) (G:p->CW P n x Q l w) (M:¬p->CW P n u Q l w):CW P n (.cond c x u) Q l w:=
 FR h (λe=>G (of_decide_eq_true e)) (λe=>M (of_decide_eq_false e))
def Si {p:Prop} [Decidable p] (G:ev l c=some (.bool (decide p))) (M:p) (h:CW P n x Q l w):CW P n (.cond c x u) Q l w:=
 Ay G (λ_=>h) (λe=>absurd M e)
def NQ {p:Prop} [Decidable p] (G:ev l c=some (.bool (decide p))) (M:¬p) (h:CW P n u Q l w):CW P n (.cond c x u) Q l w:=
 Ay G (λe=>absurd e M) (λ_=>h)
def G9 {b:Bool} (G:ev l c=some (.bool b)) (M:b=true) (h:CW P n x Q l w):CW P n (.cond c x u) Q l w:=BO (M▸G) h
def Ha {b:Bool} (G:ev l c=some (.bool b)) (M:b=false) (h:CW P n u Q l w):CW P n (.cond c x u) Q l w:=Ba (M▸G) h
def Al (h:LW P n G.toArray Q G l w):CW P n (.region o G.toArray false) Q l w:=λa N=>wp_region_lit (h a N)
def AQ {ι:Type} {c:Code} (L:ι->Sl) (I:ι->wD->Prop) (μ:ι->Nat) (X:ι) (hs:TG (L X) l) (h₀:I X w)
 (M:∀x w,I x w->CW P n c (Exit.then (λO w'=> ∃y,Env n (L y) O/\I y w'/\μ y<μ x) Q) (L x) w):CW P n (.loop c) Q l w:=by
 intro a ha;intro b k cs;have key:∀m x a w,μ x=m->I x w->Env n (L x) a ->
  ∃e O w',Q e O w'/\Arrives P (lone (b.at a (.code c::.inLoop c::k)) cs w) b k cs e O w':=by
  intro m
  induction m using Nat.strongRecOn with
  | _ m ih=>
   intro x a w hm hI hE;obtain ⟨e,U,V,G,h⟩:=M x w hI a hE b (.inLoop c::k) cs;cases e with
   | normal=>
    obtain ⟨y,Y,Z,aa⟩:=G;obtain ⟨e₂,a₂,w₂,ab,N⟩:=ih (μ y) (hm▸aa) y U V rfl Z Y;exact ⟨e₂,a₂,w₂,ab,.of_steps (Steps.trans h (.one step_inLoop)) N⟩
   | exit id=>exact ⟨_,U,V,G,.pass (x:=.inLoop c) rfl (λ_ _=>.inl (by simp)) h⟩
   | goto l=>exact ⟨_,U,V,G,.pass (x:=.inLoop c) rfl (λ_ _=>.inl (by simp)) h⟩
   | ret=>exact ⟨_,U,V,G,.pass (x:=.inLoop c) rfl (λ_ _=>.inl (by simp)) h⟩
   | panic ch=>exact ⟨_,U,V,G,.pass (x:=.inLoop c) rfl (λ_ _=>.inl (by simp)) h⟩
   | outgrown=>exact ⟨_,U,V,G,h⟩
 obtain ⟨e,O,w',G,h⟩:=key (μ X) X a w rfl h₀ (ha.sub hs);exact ⟨e,O,w',G,.of_steps (.one step_loop) h⟩
def AA {ι:Type} {L:ι->Sl} {I:ι->wD->Prop} {μ:ι->Nat} {x:ι} (y:ι) (G:TG (L y) l) (h:I y w) (M:μ y<μ x) :
 QW n (Exit.then (λN w'=> ∃y,Env n (L y) N/\I y w'/\μ y<μ x) Q) .normal l w:=λ_ O=>⟨y,O.sub G,h,M⟩
end code
def GF:Nat->lV->Sl
 | _,[]=>[]
 | i,v::r=>(i,v)::GF (i+1) r
def Gk (d:Nat) (v:Value):∀(vs:lV) (i:Nat),look (GF i vs) d=some v->i<=d/\vs[d-i]? = some v
 | [],_,h=>by simp [GF,look] at h
 | u::r,i,h=>by
  simp only [GF] at h;rw [Ii] at h;by_cases e:i=d
  . subst e;simp at h;subst h;simp
  . rw [At e] at h;obtain ⟨M,G⟩:=Gk d v r (i+1) h;refine ⟨by omega,?_⟩;rw [show d-i=(d-(i+1))+1 from by omega];simpa using G
def Ad {f:FuncId} {fn:Func} {c:Code} {args:lV} {n:Nat}
 (M:P.funcs[f]? = some fn) (X:fn.ntmps=n) (N:fn.body=some c) (O:jr args.length n=true) (h:CW P n c (bodyPost P fn R) (GF 0 args) w):Calls P f args.toArray w R:=by
 refine calls_of_wp M N (h _ ?_);have U:args.length<=n:=by simpa using O
 refine ⟨by simp;omega,rfl,λd v V=>?_⟩;obtain ⟨-,G⟩:=Gk d v args 0 V;simp only [jM] at G;have:d<args.length:=by
  rcases it d args.length with h|h
  . exact h
  . rw [ic h] at G;cases G
 rw [gN this] at G;simp only [gU] at G;simp [kN,this,G]
section ends
variable {fn:Func} {n:Nat} {l:Sl}
def EW (h:fn.results = #[]) (G:R (.returned (.tuple #[])) w):QW n (bodyPost P fn R) .ret l w:=λa M=>⟨M.defers,_,results_none h _ _ _,G⟩
def Bm (h:fn.results = #[]) (G:R (.returned (.tuple #[])) w):QW n (bodyPost P fn R) .normal l w:=λa M=>⟨M.defers,_,results_none h _ _ _,G⟩
def AT {t:Nat} (h:fn.results = #[.tmp t]) (M:look l t=some v) (N:R (.returned v) w):QW n (bodyPost P fn R) .ret l w:=λa G=>
 ⟨G.defers,_,results_tmp h _ _ _,by rw [G.has t v M];exact N⟩
def Bc {t u:Nat} {x:Value} (h:fn.results = #[.tmp t,.tmp u]) (M:look l t=some v) (N:look l u=some x) (O:R (.returned (.tuple #[v,x])) w):QW n (bodyPost P fn R) .ret l w:=λa G=>
 ⟨G.defers,_,results_tmp2 h _ _ _,by rw [G.has t v M,G.has u x N];exact O⟩
end ends
inductive Sk where
 | int (k:IntKind)|bool|str|slice (e:Nat)|struct (fs:List (Nat×Nat))|array (len e:Nat)|ptr (e:Nat)|map (k e:Nat)|func|iface
abbrev Tab:=List (Nat×Sk×Nat)
def AB:Tab->Nat->Option (Sk×Nat)
 | [],_=>none
 | p::r,t=>match jv p.1 t with
  | true=>some p.2
  | false=>AB r t
def Sk.ok (P:Program) (t:Nat):Sk->Prop
 | .int k=>P.underlying t=some (.int k)
 | .bool=>P.underlying t=some .bool
 | .str=>P.underlying t=some .string
 | .slice e=>P.underlying t=some (.slice e)
 | .array n e=>P.underlying t=some (.array n e)
 | .ptr e=>P.underlying t=some (.pointer e)
 | .map k e=>P.underlying t=some (.map k e)
 | .func=> ∃a b c,P.underlying t=some (.func a b c)
 | .iface=> ∃a,P.underlying t=some (.interface a)
 | .struct fs=> ∃gs,P.underlying t=some (.struct gs)/\gs.size=fs.length /\ ∀(i o ft:Nat),fs[i]? = some (o,ft) -> ∃g:Field,gs[i]? = some g/\g.offset=o/\g.type=ft /\ ∃j:TypeInfo,P.info? ft=some j/\j.size≠0
def Sk.check (P:Program) (t:Nat):Sk->Bool
 | .int k=>match P.underlying t with|some (.int k')=>decide (k=k')|_=>false
 | .bool=>match P.underlying t with|some .bool=>true|_=>false
 | .str=>match P.underlying t with|some .string=>true|_=>false
 | .slice e=>match P.underlying t with|some (.slice e')=>jv e' e|_=>false
 | .array n e=>match P.underlying t with|some (.array n' e')=>jv n' n&&jv e' e|_=>false
 | .ptr e=>match P.underlying t with|some (.pointer e')=>jv e' e|_=>false
 | .map k e=>match P.underlying t with|some (.map k' e')=>jv k' k&&jv e' e|_=>false
 | .func=>match P.underlying t with|some (.func _ _ _)=>true|_=>false
 | .iface=>match P.underlying t with|some (.interface _)=>true|_=>false
 | .struct fs=>match P.underlying t with
  | some (.struct gs)=>jv gs.size fs.length&&(jj fs.length).all λi=>match fs[i]?,gs[i]? with
   | some (o,ft),some g=>jv g.offset o&&jv g.type ft&&match P.info? ft with|some j=> !Nat.beq j.size 0|none=>false
   | _,_=>false
  | _=>false
def Sk.ok_of_check {t:Nat} {s:Sk} (h:s.check P t=true):s.ok P t:=by
 cases s with
 | struct V=>
  simp only [Sk.check] at h;split at h
  . rename_i Y Z;simp only [gR,iN,kp] at h;refine ⟨Y,Z,iM h.1,λi o ft N=>?_⟩;have O:i<V.length:=by
     rcases it i V.length with U|U
     . exact U
     . rw [ic U] at N;cases N
    have G:=h.2 i O;rw [N] at G;split at G
    . rename_i o' aa g X e2;simp only [gU,kE] at X;obtain ⟨rfl,rfl⟩:=X;simp only [gR] at G;refine ⟨g,e2,iM G.1.1,iM G.1.2,?_⟩;have M:=G.2;split at M
      . rename_i j hj;exact ⟨j,hj,λe=>by rw [e] at M;simp at M⟩
      . cases M
    . cases G
  . cases h
 | func=>
  simp only [Sk.check] at h;split at h
  . exact ⟨_,_,_,by assumption⟩
  . cases h
 | iface=>
  simp only [Sk.check] at h;split at h
  . exact ⟨_,by assumption⟩
  . cases h
 | int k=>simp only [Sk.check] at h;split at h<;>simp_all [Sk.ok]
 | bool=>simp only [Sk.check] at h;split at h<;>simp_all [Sk.ok]
 | str=>simp only [Sk.check] at h;split at h<;>simp_all [Sk.ok]
 | slice e=>simp only [Sk.check] at h;split at h<;>simp_all [Sk.ok]
 | ptr e=>simp only [Sk.check] at h;split at h<;>simp_all [Sk.ok]
 | array n e=>simp only [Sk.check] at h;split at h<;>simp_all [Sk.ok]
 | map n e=>simp only [Sk.check] at h;split at h<;>simp_all [Sk.ok]
structure TyOk (P:Program) (t:Nat) (s:Sk) (sz:Nat):Prop where
 under:s.ok P t
 info:∃i,P.info? t=some i/\i.size=sz
def TabOk (P:Program) (tab:Tab):Prop:= ∀t s sz,AB tab t=some (s,sz)->TyOk P t s sz
def Tab.check (P:Program) (tab:Tab):Bool:=tab.all λp=>p.2.1.check P p.1&&match P.info? p.1 with|some i=>jv i.size p.2.2|none=>false
def Uv {tab:Tab} {t:Nat} {x:Sk×Nat} (h:AB tab t=some x):(t,x)∈tab:=by
 induction tab with
 | nil=>simp [AB] at h
 | cons p r G=>
  simp only [AB] at h;split at h
  . rename_i M;have:=iM M;simp only [gU] at h;subst h this;exact je
  . exact iU _ (G h)
def TabOk.of_check {tab:Tab} (h:tab.check P=true):TabOk P tab:=λt s sz M=>by
 have:=iN.1 h _ (Uv M);simp only [gR] at this;refine ⟨Sk.ok_of_check this.1,?_⟩;have G:=this.2;split at G
 . rename_i i N;exact ⟨i,N,iM G⟩
 . cases G
def Br (P:Program) (n:Nat) (l:Sl) (S:wD->Prop) (op:Op) (ty:TypeId) (v:Value):Prop:=
 ∀a w dst pos after g,Env n l a->S w->(execOp a.eval ⟨dst,op,ty,pos,after,g⟩).run P w = .ok (.value v) w
section pur
variable {n:Nat} {l:Sl} {S:wD->Prop} {ty:TypeId} {tab:Tab}
def Av {x:Operand} (h:ev l x=some v):Br P n l S (.move x) ty v:=λa w G pos after g M _=>by
 simp [execOp,M.ev h]
def I1 {x:Operand} (h:ev l x=some v):Br P n l S (.assign x) ty v:=λa w G pos after g M _=>by
 simp [execOp,M.ev h]
def AD {t:Nat} {d:TypeDesc} (h:P.underlying t=some d) (w:wD):(underlying t).run P w = .ok d w:=by
 simp [underlying,program,jP,h,bind,Sem.bind,pure]
def Wn {t:Nat} {i:TypeInfo} (h:P.info? t=some i) (w:wD):(Go.sizeOf t).run P w = .ok i.size w:=by
 simp [Go.sizeOf,typeInfo,program,jP,h,bind,Sem.bind,pure]
def Ca {t:Nat} {s:Sk} (h:TyOk P t s sz) (w:wD):(Go.sizeOf t).run P w = .ok sz w:=by
 obtain ⟨i,G,M⟩:=h.info;simp [Go.sizeOf,typeInfo,program,jP,G,bind,Sem.bind,pure,M]
def AY {x:Operand} {s f b h:Nat} (T:TabOk P tab) (O:ev l x=some (.pointer (some ⟨b,o,none⟩)))
 (U:AB tab s=some (.struct M,sz)) (V:M[f]? = some (h,i)):Br P n l S (.fieldAddr s x f) ty (.pointer (some ⟨b,o+h,none⟩)):=λa w X pos after g Y _=>by
 obtain ⟨gs,Z,-,h2⟩:=(T _ _ _ U).under;obtain ⟨fd,h3,h4,h5,j,h6,h7⟩:=h2 f h i V;have e:(Instr.fieldAt s (.pointer (some ⟨b,o,none⟩)) f).run P w = .ok (.pointer (some ⟨b,o+h,none⟩)) w:=by
  simp only [Instr.fieldAt,ij,AD Z,gY,h3,Instr.sureAddr,iC,fieldPlace,h5,h4];simp only [Wn h6,h7,if_false,iC,jA];by_cases N:h=0
  . subst N;simp
  . simp [N]
 simp [execOp,Y.ev O,e]
def Cb {x:Operand} {s f b:Nat} {h:List (Nat×Nat)} (T:TabOk P tab) (M:ev l x=some (.pointer (some ⟨b,o,none⟩)))
 (N:AB tab s=some (.struct h,sz)) (O:h[f]? = some (0,e)):Br P n l S (.fieldAddr s x f) ty (.pointer (some ⟨b,o,none⟩)):=AY T M N O
def Sk.agg:Sk->Bool
 | .struct _ | .array _ _=>true
 | _=>false
def CB {t:Nat} {s:Sk} (h:TyOk P t s sz) (w:wD):(isAgg t).run P w = .ok s.agg w:=by
 have:=h.under;cases s with
 | struct M=>obtain ⟨N,G,-⟩:=this;simp [isAgg,AD G,gY,Sk.agg]
 | func=>obtain ⟨_,_,_,G⟩:=this;simp [isAgg,AD G,gY,Sk.agg]
 | iface=>obtain ⟨_,G⟩:=this;simp [isAgg,AD G,gY,Sk.agg]
 | _=>simp [isAgg,AD this,gY,Sk.agg]
def Ap {x:Operand} {t:Nat} {s:Sk} {p:Addr} (T:TabOk P tab) (h:AB tab t=some (s,sz)) (G:s.agg=false) (M:ev l x=some (.pointer (some p)))
 (N:∀w,S w->w.cell? p=some v):Br P n l S (.load t x) ty v:=λa w O pos after g U V=>by
 have e:(Instr.loadAt t (.pointer (some p))).run P w = .ok v w:=by
  simp only [Instr.loadAt,Instr.sureAddr,ij,iC,gY,loadVar,CB (T _ _ _ h),G];simp [load,jP,N w V]
 simp [execOp,U.ev M,e]
def Row (w:wD) (p:Addr) (vs:lV):Prop:= ∀i v,vs[i]? = some v->w.cell? (p.add i)=some v
def CD {p:Addr} (h:Row w p vs):(loadCells p vs.length).run P w = .ok vs.toArray w:=
 run_loadCells_list w p vs h
def Ij {x:Operand} {t:Nat} {s:Sk} {p:Addr} (T:TabOk P tab) (h:AB tab t=some (s,sz)) (G:s.agg=true) (M:ev l x=some (.pointer (some p)))
 (N:vs.length=sz) (O:∀w,S w->Row w p vs):Br P n l S (.load t x) ty (.agg vs.toArray):=λa w U pos after g V X=>by
 have e:(Instr.loadAt t (.pointer (some p))).run P w = .ok (.agg vs.toArray) w:=by
  simp only [Instr.loadAt,Instr.sureAddr,ij,iC,gY,loadVar,CB (T _ _ _ h),G,if_true,Ca (T _ _ _ h)];rw [<-N,CD (O w X)]
 simp [execOp,V.ev M,e]
def BC {x:Operand} {t:Nat} {s:Sk} {p:Addr} (T:TabOk P tab) (h:AB tab t=some (s,sz)) (G:s.agg=true) (M:ev l x=some (.pointer (some p)))
 (N:∀w,S w->Row w p vs) (O:vs.length=sz):Br P n l S (.load t x) ty (.agg vs.toArray):=Ij T h G M O N
def AO {x i:Operand} {t h b len cap:Nat} {j:Int} {sE:Sk} (T:TabOk P tab) (N:AB tab t=some (.slice e,sz)) (O:AB tab e=some (sE,h))
 (U:ev l x=some (.slice (some ⟨b,o,none⟩) len cap)) (V:ev l i=some (.int k j)) (X:0<=j) (Y:j<len):Br P n l S (.indexAddr t x i) ty (.pointer (some ⟨b,o+j.toNat*h,none⟩)):=λa w Z pos after g G _=>by
 have hu:P.underlying t=some (.slice e):=(T _ _ _ N).under;have e:(Instr.indexAt t (.slice (some ⟨b,o,none⟩) len cap) (.int k j)).run P w = .ok (.pointer (some ⟨b,o+j.toNat*h,none⟩)) w:=by
  simp only [Instr.indexAt,asIntOf,ij,iC,gY,AD hu];simp only [X,Y,and_self,if_true,ij,Ca (T _ _ _ O),gY,iC,jA];by_cases M:j.toNat*h=0
  . simp [M]
  . simp [M]
 simp [execOp,G.ev U,G.ev V,e]
def Bv {op:BinOp} {t:Nat} {x:Operand} {h:IntKind} {a b:Int}:(eqGuard op t x y (.int k a) (.int h b)).run P w = .ok () w:=by
 unfold eqGuard;cases op<;>simp
def EY {op:BinOp} {t:Nat} {x:Operand} {a b:ByteArray}:(eqGuard op t x y (.string a) (.string b)).run P w = .ok () w:=by
 unfold eqGuard;cases op<;>simp
def FT [BEq α] [LawfulBEq α] [DecidableEq α] (a b:α):(a==b)=decide (a=b):=by
 rw [jH];simp
section AZ
variable {x:Operand} {t t':Nat} {a b c:Int}
def LN (G:ev l x=some (.int k a)) (M:ev l y=some (.int k b)) (N:k.wrap (a+b)=c):Br P n l S (.binOp .add t x y t') ty (.int k c):=λa w O pos after g h _=>by
 subst N;simp [execOp,h.ev G,h.ev M,Bv,binOp,Op.intArith]
def AL (G:ev l x=some (.int k a)) (M:ev l y=some (.int k b)) (N:k.wrap (a-b)=c):Br P n l S (.binOp .sub t x y t') ty (.int k c):=λa w O pos after g h _=>by
 subst N;simp [execOp,h.ev G,h.ev M,Bv,binOp,Op.intArith]
def Ik (G:ev l x=some (.int k a)) (M:ev l y=some (.int k b)) (N:k.wrap (a*b)=c):Br P n l S (.binOp .mul t x y t') ty (.int k c):=λa w O pos after g h _=>by
 subst N;simp [execOp,h.ev G,h.ev M,Bv,binOp,Op.intArith]
def YG (G:ev l x=some (.int k a)) (M:ev l y=some (.int k b)):Br P n l S (.binOp .eql t x y t') ty (.bool (decide (a=b))):=λa w N pos after g h _=>by
 simp [execOp,h.ev G,h.ev M,Bv,binOp,Op.intCmp,FT]
def OY (G:ev l x=some (.int k a)) (M:ev l y=some (.int k b)):Br P n l S (.binOp .neq t x y t') ty (.bool (decide (a≠b))):=λa w N pos after g h _=>by
 simp [execOp,h.ev G,h.ev M,Bv,binOp,Op.intCmp,bne,FT]
def YH (G:ev l x=some (.int k a)) (M:ev l y=some (.int k b)):Br P n l S (.binOp .lss t x y t') ty (.bool (decide (a<b))):=λa w N pos after g h _=>by
 simp [execOp,h.ev G,h.ev M,Bv,binOp,Op.intCmp]
def YI (G:ev l x=some (.int k a)) (M:ev l y=some (.int k b)):Br P n l S (.binOp .leq t x y t') ty (.bool (decide (a<=b))):=λa w N pos after g h _=>by
 simp [execOp,h.ev G,h.ev M,Bv,binOp,Op.intCmp]
def YJ (G:ev l x=some (.int k a)) (M:ev l y=some (.int k b)):Br P n l S (.binOp .gtr t x y t') ty (.bool (decide (b<a))):=λa w N pos after g h _=>by
 simp [execOp,h.ev G,h.ev M,Bv,binOp,Op.intCmp]
def YK (G:ev l x=some (.int k a)) (M:ev l y=some (.int k b)):Br P n l S (.binOp .geq t x y t') ty (.bool (decide (b<=a))):=λa w N pos after g h _=>by
 simp [execOp,h.ev G,h.ev M,Bv,binOp,Op.intCmp]
end AZ
def GG (a:lB):(⟨a.toArray⟩:ByteArray).toList=a:=by
 simp [ByteArray.toList_eq]
section strs
variable {x:Operand} {t t':Nat} {a b:lB}
def Wo (G:ev l x=some (str a)) (M:ev l y=some (str b)):Br P n l S (.binOp .eql t x y t') ty (.bool (decide (a=b))):=λ_ w N pos after g h _=>by
 simp only [execOp,h.ev G,h.ev M,ij,EY,gY,binOp,Op.stringOp,iC,GG,FT]
def Wp (M:ev l x=some (str a)) (N:ev l y=some (str b)):Br P n l S (.binOp .neq t x y t') ty (.bool (decide (a≠b))):=λ_ w O pos after g G _=>by
 simp only [execOp,G.ev M,G.ev N,ij,EY,gY,binOp,Op.stringOp,iC,GG];congr 3;by_cases h:a=b<;>simp [h]
def TH {q:Bool} (h:ev l x=some (.bool q)):Br P n l S (.unOp .not t x) ty (.bool !q):=λ_ w G pos after g M _=>by
 simp [execOp,M.ev h,Op.unary]
def Co {q:Bool} {u:Value} (G:ev l c=some (.bool q)) (M:ev l x=some u) (N:q=true):Br P n l S (.pick c x y) ty u:=λ_ w O pos after g h _=>by
 subst N;simp [execOp,h.ev G,h.ev M,asBool]
def BR {q:Bool} (G:ev l c=some (.bool q)) (M:ev l y=some v) (N:q=false):Br P n l S (.pick c x y) ty v:=λ_ w O pos after g h _=>by
 subst N;simp [execOp,h.ev G,h.ev M,asBool]
def GH {p:Prop} [Decidable p] {u:Value} (h:ev l c=some (.bool (decide p))) (G:ev l x=some u) (M:p):Br P n l S (.pick c x y) ty u:=Co h G (decide_eq_true M)
def FU {p:Prop} [Decidable p] (h:ev l c=some (.bool (decide p))) (G:ev l y=some v) (M:¬p):Br P n l S (.pick c x y) ty v:=BR h G (decide_eq_false M)
def Qb (h:ev l x=some (.tuple vs.toArray)) (G:vs[i]? = some v):Br P n l S (.extract x i) ty v:=λ_ w M pos after g N _=>by
 simp [execOp,N.ev h,Instr.extract,G]
def Qc (T:TabOk P tab) {pt:Bool} (h:AB tab t=some (.str,sz)) (G:ev l x=some (str a)):Br P n l S (.call ⟨.builtin .len,#[x],#[t]⟩) ty (.int .i64 a.length):=λ_ w M pos after g N _=>by
 have O:P.underlying t=some .string:=(T _ _ _ h).under;have U:(⟨a.toArray⟩:ByteArray).size=a.length:=by simp [ByteArray.size]
 simp [execOp,resolve,invoke,builtin,Builtin.len_,N.ev G,AD O,gY,goInt,U]
def DS (T:TabOk P tab) {len cap:Nat} (h:AB tab t=some (.slice e,sz)) (G:ev l x=some (.slice p len cap)):Br P n l S (.call ⟨.builtin .len,#[x],#[t]⟩) ty (.int .i64 len):=λ_ w M pos after g N _=>by
 have O:P.underlying t=some (.slice e):=(T _ _ _ h).under;simp [execOp,resolve,invoke,builtin,Builtin.len_,N.ev G,AD O,gY,goInt]
end strs
end pur
def Blk (w:wD) (b:Nat) (vs:lV):Prop:= ∃ty,w.heap[b]? = some (.cells vs.toArray ty (0,0))
def Blk.lt {b:Nat} (h:Blk w b vs):b<w.heap.size:=by
 obtain ⟨ty,h⟩:=h;rcases it b w.heap.size with G|G
 . exact G
 . rw [iQ G] at h;cases h
def Blk.cell {w:wD} {b i:Nat} {vs:lV} {v:Value} (h:Blk w b vs) (G:vs[i]? = some v):w.cell? ⟨b,i,none⟩=some v:=by
 obtain ⟨ty,h⟩:=h;simp [World.cell?,h,G]
def Blk.row {b:Nat} (h:Blk w b vs):Row w ⟨b,0,none⟩ vs:=λi v G=>by
 have:(⟨b,0,none⟩:Addr).add i=⟨b,i,none⟩:=by unfold jA;by_cases M:i=0<;>simp [M]
 rw [this];exact h.cell G
def Blk.free {b:Nat} (h:Blk w b vs):w.frozen? ⟨b,o,none⟩=false:=by
 obtain ⟨ty,h⟩:=h;simp [World.frozen?,h]
def Blk.ext {b:Nat} (h:Blk w b vs) (e:Ext w w'):Blk w' b vs:=by
 have G:=h.lt;obtain ⟨ty,h⟩:=h;exact ⟨ty,by rw [e.block G];exact h⟩
def Blk.fr {b:Nat} (h:Blk w b vs) (e:Fr S w w') (G:¬S b):Blk w' b vs:=by
 have M:=h.lt;obtain ⟨ty,h⟩:=h;exact ⟨ty,by rw [e.block b M G];exact h⟩
def Blk.set {w:wD} {b i:Nat} {vs:lV} (h:Blk w b vs) (v:Value):Blk (w.setCell ⟨b,i,none⟩ v) b (vs.set i v):=by
 obtain ⟨ty,h⟩:=h;refine ⟨ty,?_⟩;simp [World.setCell,jN,h]
def Row.at {w:wD} {b o i:Nat} {vs:lV} {v:Value} (h:Row w ⟨b,o,none⟩ vs) (G:vs[i]? = some v):w.cell? ⟨b,o+i,none⟩=some v:=by
 have:=h i v G;have e:(⟨b,o,none⟩:Addr).add i=⟨b,o+i,none⟩:=by unfold jA;by_cases M:i=0<;>simp [M]
 rwa [e] at this
def Row.at0 {b:Nat} (h:Row w ⟨b,o,none⟩ vs) (G:vs[0]? = some v):w.cell? ⟨b,o,none⟩=some v:=h.at G
def Uw (p:Addr) (i:Nat):(p.add i).block=p.block:=by unfold jA;split<;>rfl
def Ux {p:Addr} (h:w.cell? p=some v):p.spot=none:=by
 unfold World.cell? at h;split at h
 . cases hs:p.spot with
   | none=>rfl
   | some q=>simp [hs] at h
 . cases h
def Row.ext {p:Addr} (h:Row w p vs) (e:Ext w w'):Row w' p vs:=λi v M=>by
 have G:=h i v M;have N:=Cs G;rw [Below.cell e N];exact G
def Row.fr {p:Addr} (h:Row w p vs) (e:Fr S w w') (M:¬S p.block):Row w' p vs:=λi v N=>by
 have G:=h i v N;have O:=Cs G;rw [World.cell?_of_block (w:=w) (e.block _ O (by rw [Uw];exact M))];exact G
structure New (w w1:wD) (b:Nat) (vs:lV):Prop where
 pos:b=w.heap.size
 blk:Blk w1 b vs
 ext:Ext w w1
 size:w1.heap.size=b+1
def EB (w:wD) (vs:lV) (ty:TypeId):New w (w.alloc (.cells vs.toArray ty (0,0))) w.heap.size vs:=
 ⟨rfl,⟨ty,by show (w.heap.push _)[w.heap.size]? = _;simp⟩,(Ext.refl w).alloc _,by show (w.heap.push _).size=_;simp⟩
def A7:lV->Nat->lV->lV
 | vs,_,[]=>vs
 | vs,o,u::r=>A7 (vs.set o u) (o+1) r
structure Put (w w1:wD) (b:Nat) (vs:lV):Prop where
 blk:Blk w1 b vs
 fr:Fr (· = b) w w1
 size:w1.heap.size=w.heap.size
def Value.one:Value->Bool
 | .agg _ | .tuple _=>false
 | _=>true
def NR {b:Nat} (h:Blk w b vs) (G:o<vs.length) (M:Value.one v=true) (k:Sem α) :
 (Sem.store .plain ⟨b,o,none⟩ v k).run P w=k.run P (w.setCell ⟨b,o,none⟩ v):=by
 have N:=h.cell (gN G);have O:=h.free (o:=o);cases v<;>first|(simp [Value.one] at M;done)|simp [jP,N,O]
def Fy {P:Program}:∀(us:lV) (w:wD) (b o i:Nat) (vs:lV),Blk w b vs->o+i+us.length<=vs.length->us.all Value.one=true ->
 ∃w1,(storeCells ⟨b,o,none⟩ us i).run P w = .ok () w1/\Put w w1 b (A7 vs (o+i) us)
 | [],w,b,o,i,vs,h,_,_=>⟨w,rfl,h,Fr.refl _ _,rfl⟩
 | u::r,w,b,o,i,vs,h,N,G=>by
  simp only [gV] at N;simp only [kU,gR] at G;have O:(⟨b,o,none⟩:Addr).add i=⟨b,o+i,none⟩:=by unfold jA;by_cases U:i=0<;>simp [U]
  have e:(storeCells ⟨b,o,none⟩ (u::r) i).run P w=(storeCells ⟨b,o,none⟩ r (i+1)).run P (w.setCell ⟨b,o+i,none⟩ u):=by
   simp only [storeCells,store,O,bind,Sem.bind];exact NR h (by omega) G.1 _
  obtain ⟨w1,V,M⟩:=Fy (P:=P) r _ b o (i+1) _ (h.set (i:=o+i) u) (by simp;omega) G.2;refine ⟨w1,by rw [e,V],M.blk,((Fr.refl (· = b) w).setCell ⟨b,o+i,none⟩ u (gP rfl)).trans M.fr,?_⟩;rw [M.size];simp [World.setCell]
def Bd {o:Oper} {y:Nat->Option Bool} (h:o.guard=none):Region.wanted o y=true:=by unfold Region.wanted;rw [h]
section seqs
variable {P:Program} {n:Nat} {ops:Array Oper} {Q:Exit->Act->wD->Prop} {rest:List Oper} {l:Sl} {w:wD} {tab:Tab}
 {d:Nat} {ty:TypeId} {pos:String} {after:Array Edge}
def Ak (h:QW n Q .normal l w):LW P n ops Q [] l w:=h
def De (G:Br P n l (λx=>x=w) op ty v) (M:iE d n=true) (k:LW P n ops Q rest ((d,v)::l) w) :
 LW P n ops Q (⟨some d,op,ty,pos,after,none⟩::rest) l w:=λa h=>by
 unfold wpList;rw [AH (Bd rfl)];left;unfold jy;rw [G a w _ _ _ _ h rfl];exact k _ (h.put M v)
def BL (ops:Array Oper) (j:Nat):Option Nat:=(ops.toList[j]?).bind (·.dst)
def Gl {n:Nat} {l:Sl} {a:Act} (M:Env n l a) {ops:Array Oper} {b:Bool} {o:Oper} (O:o.guard=some (j,h)) (U:BL ops j=some e) (V:iE e n=true) (X:look l e=some (.bool b)) :
 Region.wanted o (yielded ops a.tmps)=(b==h):=by
 have N:=M.has e _ X;have G:e<a.tmps.size:=by rw [M.size];exact iA V
 have Y:a.tmps[e]? = some (.bool b):=by
  rw [jf,jk G] at N;rw [jk G];simpa using N
 have Z:(ops[j]?).bind (·.dst)=some e:=by simpa [BL] using U
 unfold Region.wanted yielded;simp only [O,Z,jZ,Y];cases b<;>cases h<;>rfl
def Bh {b:Bool} (M:BL ops j=some o) (N:iE o n=true) (O:look l o=some (.bool b)) (U:(b==h)=false) (V:iE d n=true)
 (k:LW P n ops Q rest ((d,undef)::l) w):LW P n ops Q (⟨some d,op,ty,pos,after,some (j,h)⟩::rest) l w:=λa G=>by
 unfold wpList;rw [Gl G rfl M N O,U];exact k _ (G.put V undef)
def Bn {b:Bool} (M:BL ops j=some o) (N:iE o n=true) (O:look l o=some (.bool b)) (U:(b==h)=true)
 (k:LW P n ops Q (⟨some d,op,ty,pos,after,none⟩::rest) l w):LW P n ops Q (⟨some d,op,ty,pos,after,some (j,h)⟩::rest) l w:=λa G=>by
 have:=k a G;unfold wpList at this ⊢;rw [AH (by rw [Gl G rfl M N O,U])];rw [AH (Bd rfl)] at this;exact this
section guards
variable {dj:Nat} {p:Prop} [Decidable p]
def Bl (h:BL ops j=some dj) (G:iE dj n=true) (M:look l dj=some (.bool (decide p))) (N:¬p)
 (k:LW P n ops Q (⟨some d,op,ty,pos,after,none⟩::rest) l w):LW P n ops Q (⟨some d,op,ty,pos,after,some (j,false)⟩::rest) l w:=Bn h G M (by simp [N]) k
def BA (h:BL ops j=some dj) (G:iE dj n=true) (M:look l dj=some (.bool (decide p))) (N:p) (O:iE d n=true)
 (k:LW P n ops Q rest ((d,undef)::l) w):LW P n ops Q (⟨some d,op,ty,pos,after,some (j,false)⟩::rest) l w:=Bh h G M (by simp [N]) O k
end guards
def BE (P:Program) (n:Nat) (l:Sl) (op:Op) (ty:TypeId) (w:wD) (K:Option Value->wD->Prop):Prop:=
 ∀a dst pos after g (next:Act->wD->Prop) (Q:Exit->Act->wD->Prop),Env n l a->(∀v w',K (some v) w'->next (a.put dst v) w')->(∀w',K none w'->next (a.put dst undef) w')->(⟨dst,op,ty,pos,after,g⟩:Oper).wp P a w next Q
def Ax {K:Option Value->wD->Prop} (M:BE P n l op ty w K) (N:iE d n=true) (k:∀v w1,K (some v) w1->LW P n ops Q rest ((d,v)::l) w1) (O:∀w1,¬K none w1) :
 LW P n ops Q (⟨some d,op,ty,pos,after,none⟩::rest) l w:=λa G=>by
 unfold wpList;rw [AH (Bd rfl)];left;exact M a _ _ _ _ _ _ G (λv w1 U=>k v w1 U _ (G.put N v)) (λw1 h=>absurd h (O w1))
def A6 {K:Option Value->wD->Prop} (M:BE P n l op ty w K) (k:∀v w1,K v w1->LW P n ops Q rest l w1) :
 LW P n ops Q (⟨none,op,ty,pos,after,none⟩::rest) l w:=λa G=>by
 unfold wpList;rw [AH (Bd rfl)];left;exact M a _ _ _ _ _ _ G (λv w1 N=>k _ w1 N _ G) (λw1 h=>k _ w1 h _ G)
end seqs
section does
variable {n:Nat} {l:Sl} {tab:Tab} {ty:TypeId}
def aK (w:wD) (vs:lV):Option Value->wD->Prop
 | some v,w1=> ∃b,v = .pointer (some ⟨b,0,none⟩)/\New w w1 b vs
 | none,_=>False
def Hb {x:Operand} {t:Nat} (hx:ev l x=some v) (hv:v.cells=vs.toArray):BE P n l (.box t x) ty w (aK w vs):=λa dst pos after g next Q ha hn _=>by
 have e:(execOp a.eval ⟨dst,.box t x,ty,pos,after,g⟩).run P w = .ok (.value (.pointer (some ⟨w.heap.size,0,none⟩))) (w.alloc (.cells vs.toArray t (0,0))):=by
  simp [execOp,ha.ev hx,Instr.box,newVar,newRow,newObj,jP,hv,bind,Sem.bind,pure]
 unfold jy;rw [e];exact hn _ _ ⟨_,rfl,EB _ _ _⟩
abbrev Ey:=List (Nat×lV)
def Ct (P:Program):Ey->Prop
 | []=>True
 | p::r=>((P.info? p.1).bind (·.zero)).map Value.cells=some p.2.toArray/\Ct P r
def CP:Ey->Nat->Option lV
 | [],_=>none
 | p::r,t=>match jv p.1 t with
  | true=>some p.2
  | false=>CP r t
def E5 {zt:Ey} (h:Ct P zt) {t:Nat} (G:CP zt t=some vs):∃i v,P.info? t=some i/\i.zero=some v/\v.cells=vs.toArray:=by
 induction zt with
 | nil=>simp [CP] at G
 | cons p r N=>
  simp only [CP] at G;split at G
  . rename_i O;have:=iM O;simp only [gU] at G;subst G this;have M:=h.1;cases hi:P.info? p.1 with
    | none=>rw [hi] at M;simp at M
    | some i=>
     rw [hi] at M;cases hz:i.zero with
     | none=>simp [hz] at M
     | some v=>exact ⟨i,v,rfl,hz,by simpa [hz] using M⟩
  . exact N h.2 G
def Bb {zt:Ey} {t:Nat} (Z:Ct P zt) (hz:CP zt t=some vs):BE P n l (.alloc t) ty w (aK w vs):=λa dst pos after g next Q ha hn _=>by
 obtain ⟨i,v,h1,h2,h3⟩:=E5 Z hz;have e:(execOp a.eval ⟨dst,.alloc t,ty,pos,after,g⟩).run P w = .ok (.value (.pointer (some ⟨w.heap.size,0,none⟩))) (w.alloc (.cells vs.toArray t (0,0))):=by
  simp [execOp,Instr.alloc,zeroValue,typeInfo,program,newVar,newRow,newObj,jP,h1,h2,h3,bind,Sem.bind,pure]
 unfold jy;rw [e];exact hn _ _ ⟨_,rfl,EB _ _ _⟩
def dV (w:wD) (b:Nat) (vs:lV):Option Value->wD->Prop
 | none,w1=>Put w w1 b vs
 | some _,_=>False
def D1 {x:Operand} {t b:Nat} {s:Sk} {us:lV} (T:TabOk P tab) (ht:AB tab t=some (s,sz)) (hx:ev l x=some (.pointer (some ⟨b,o,none⟩))) (hy:ev l y=some v)
 (hv:v.cells=us.toArray) (hl:us.length=sz) (h1:us.all Value.one=true) (hb:Blk w b vs) (ho:jr (o+us.length) vs.length=true):BE P n l (.store t x y) ty w (dV w b (A7 vs o us)):=λa dst pos after g next Q ha _ hn=>by
 obtain ⟨w1,e1,e2⟩:=Fy (P:=P) us w b o 0 vs hb (by simpa using ho) h1;have e:(execOp a.eval ⟨dst,.store t x y,ty,pos,after,g⟩).run P w = .ok .skip w1:=by
  have hcs:v.cells.toList=us:=by rw [hv]
  have hsz:v.cells.size=sz:=by rw [hv];simpa using hl
  simp only [execOp,ha.ev hx,ha.ev hy,Instr.storeAt,Instr.sureAddr,ij,iC,gY,storeVar,Ca (T _ _ _ ht),hsz,hcs,e1];simp only [ne_eq,not_true,if_false,ij,iC,gY,e1]
 unfold jy;rw [e];exact hn _ e2
def BZ (P:Program) (f:FuncId):Bool:=match P.funcs[f]? with
 | some fn=> !(fn.name == "runtime.NumGoroutine")&&fn.body.isSome
 | none=>false
def DH {f:FuncId} {args:Array Value} (G:BZ P f=true) (w:wD):(callFunc f args).run P w = .ok (.enter f args) w:=by
 unfold BZ at G
 split at G
 . rename_i fn M
   simp only [gR,kJ,Option.isSome_iff_ne_none] at G
   have O:fn.body.isNone=false:=by cases h:fn.body<;>simp_all
   have N:fn.name ≠ "runtime.NumGoroutine" := by simpa using G.1
   simp [callFunc,program,jP,M,bind,Sem.bind,N,G.2,pure]
 . cases G
def aL (R:Ending->wD->Prop):Option Value->wD->Prop
 | some v,w1=>R (.returned v) w1
 | none,_=>False
def AN {f:FuncId} {xs:List Operand} {tys:Array TypeId} (hb:BZ P f=true) (hxs:evs l xs=some vs) (C:Calls P f vs.toArray w R)
 (hR:∀e w1,R e w1 -> ∃v,e = .returned v):BE P n l (.call ⟨.value (.func f),xs.toArray,tys⟩) ty w (aL R):=λa dst pos after g next Q ha hn _=>by
 have hargs:xs.map a.eval=vs:=ha.evs hxs;have e:(execOp a.eval ⟨dst,.call ⟨.value (.func f),xs.toArray,tys⟩,ty,pos,after,g⟩).run P w = .ok (.enter f vs.toArray) w:=by
  simp only [execOp,resolve,Act.eval,Deferred.ofValue,ij,iC,gY,invoke];rw [DH hb];simp [<-hargs]
 unfold jy;rw [e];refine i7 C λe w1 h=>?_
 obtain ⟨v,rfl⟩:=hR e w1 h;exact hn v w1 h
def A8 {f:FuncId} {x:Operand} {fi ca:lV} {xs:List Operand} {tys:Array TypeId} (hb:BZ P f=true) (hx:ev l x=some (.func (.func f) fi.toArray ca.toArray)) (hxs:evs l xs=some vs) (C:Calls P f (fi++vs++ca).toArray w R)
 (hR:∀e w1,R e w1 -> ∃v,e = .returned v):BE P n l (.call ⟨.value x,xs.toArray,tys⟩) ty w (aL R):=λa dst pos after g next Q ha hn _=>by
 have hargs:xs.map a.eval=vs:=ha.evs hxs;have e:(execOp a.eval ⟨dst,.call ⟨.value x,xs.toArray,tys⟩,ty,pos,after,g⟩).run P w = .ok (.enter f (fi++vs++ca).toArray) w:=by
  simp only [execOp,resolve,ha.ev hx,Deferred.ofValue,ij,iC,gY,invoke];rw [DH hb];simp [<-hargs]
 unfold jy;rw [e];refine i7 C λe w1 h=>?_
 obtain ⟨v,rfl⟩:=hR e w1 h;exact hn v w1 h
end does
inductive Sch where
 | done
 | pure (i:Nat) (r:Sch)
 | fork (i:Nat) (x r:Sch)
 | none
def HW (P:Program) (ops:Array Oper) (Q:Exit->Act->wD->Prop) (S:wD->Prop):Sch->Act->wD->Prop
 | .done,a,w=>Q .normal a w
 | .pure i r,a,w=> ∃o v,ops.toList[i]? = some o/\YieldsIf P ops S o v a/\HW P ops Q S r (a.put o.dst v) w
 | .fork i x r,a,w=>wpOp P ops Q i (λa' w'=>S w'/\HW P ops Q S x a' w') a w/\HW P ops Q S r a w
 | .none,_,_=>True
def Df (Q:Exit->Act->wD->Prop):Prop:= ∀d v c a w,Q (.panic c) (Act.put a d v) w->Q (.panic c) a w
def Ag {fn:Func}:Df (bodyPost P fn R):=λd v c a w h=>by
 cases d<;>exact h
def Aa {K:Act->wD->Prop} (h:Df Q):Df (Exit.then K Q):=h
def Af (h:Df Q):Df (Exit.inBlock i Q):=h
def DW (P:Program) (n:Nat) (ops:Array Oper) (Q:Exit->Act->wD->Prop) (S:wD->Prop) (s:Sch) (l:Sl) (w:wD):Prop:= ∀a,Env n l a->HW P ops Q S s a w
section draws
variable {P:Program} {n:Nat} {ops:Array Oper} {Q:Exit->Act->wD->Prop} {S:wD->Prop} {l:Sl} {w:wD}
 {d i:Nat} {ty:TypeId} {pos:String} {after:Array Edge} {r x:Sch}
end draws
def gz {n:Nat} {l:Sl} (h:CW P n (.cond c x u) Q l w):CW P n (.cond c x u) Q l w:=h
def gA {n d:Nat} {ty:TypeId} {rest:List Oper} {l:Sl} (h:LW P n a Q (⟨some d,op,ty,f,b,none⟩::rest) l w):LW P n a Q (⟨some d,op,ty,f,b,none⟩::rest) l w:=h
def fR {n d:Nat} {ty:TypeId} {g:Nat×Bool} {rest:List Oper} {l:Sl} (h:LW P n a Q (⟨some d,op,ty,f,b,some g⟩::rest) l w):LW P n a Q (⟨some d,op,ty,f,b,some g⟩::rest) l w:=h
attribute [irreducible] CW LW QW DW Br BE
open Go.Proofs
variable {t b n t' B:Nat} {x z:Operand} {cs:lV} {S:wD->Prop} {ty:TypeId} {s:Sk} {T S':nP} {p:Prop} {ps:List (Nat×Operand)} {l:Sl} {xa:oA} {k:Int} {xs:List Operand} {h:List (Nat×Nat)} {q:Bool} {y:Nd} {U:IntKind} {fn:Func}
def tab:Tab:=[(1,.func,1),
 (2,.int .i64,1),
 (3,.int .i64,1),
 (4,.bool,1),
 (5,.int .u8,1),
 (6,.int .u8,1),
 (7,.struct [(0,2),(1,3),(2,4),(3,6)],4),
 (8,.struct [(0,2),(1,3),(2,4),(3,6)],4),
 (9,.str,1),
 (10,.str,1),
 (11,.str,1),
 (12,.int .u64,1),
 (14,.struct [(0,9),(1,12)],2),
 (15,.ptr 301,1),
 (16,.ptr 304,1),
 (17,.ptr 312,1),
 (19,.struct [(0,17)],1),
 (20,.iface,1),
 (23,.slice 36,1),
 (24,.slice 5,1),
 (25,.slice 77,1),
 (26,.slice 116,1),
 (27,.slice 29,1),
 (29,.struct [(0,5),(1,3),(2,9),(3,27)],4),
 (31,.struct [(0,25),(1,26),(2,29)],6),
 (33,.struct [(0,3),(1,3),(2,3)],3),
 (34,.struct [(0,3),(1,3),(2,3)],3),
 (36,.struct [(0,9),(1,3),(2,3),(3,34),(6,31)],12),
 (37,.ptr 80,1),
 (38,.int .i64,1),
 (40,.func,1),
 (41,.func,1),
 (42,.slice 43,1),
 (43,.slice 3,1),
 (44,.struct [(0,42),(1,43),(2,43)],3),
 (45,.struct [(0,42),(1,43),(2,43)],3),
 (47,.struct [(0,4),(1,3),(2,45),(5,38)],6),
 (52,.func,1),
 (53,.slice 9,1),
 (57,.func,1),
 (58,.func,1),
 (59,.func,1),
 (60,.slice 65,1),
 (61,.slice 111,1),
 (62,.struct [(0,43),(1,61)],2),
 (63,.struct [(0,43),(1,61)],2),
 (65,.struct [(0,9),(1,9),(2,31)],8),
 (66,.func,1),
 (77,.struct [(0,9),(1,5),(2,3)],3),
 (78,.map 9 84,1),
 (80,.struct [(0,23),(1,78)],2),
 (83,.struct [(0,3),(1,4)],2),
 (84,.map 9 83,1),
 (88,.func,1),
 (91,.func,1),
 (93,.func,1),
 (94,.func,1),
 (98,.func,1),
 (99,.func,1),
 (100,.func,1),
 (101,.func,1),
 (102,.func,1),
 (104,.struct [(0,45),(3,3),(4,38)],5),
 (105,.func,1),
 (107,.func,1),
 (108,.func,1),
 (109,.func,1),
 (110,.struct [(0,9),(1,3),(2,4)],3),
 (111,.struct [(0,9),(1,3),(2,4)],3),
 (112,.func,1),
 (114,.func,1),
 (115,.struct [(0,9),(1,25),(2,29)],6),
 (116,.struct [(0,9),(1,25),(2,29)],6),
 (117,.func,1),
 (119,.func,1),
 (120,.func,1),
 (121,.func,1),
 (122,.func,1),
 (123,.func,1),
 (124,.int .u64,1),
 (125,.func,1),
 (126,.slice 165,1),
 (128,.slice 140,1),
 (131,.slice 135,1),
 (135,.struct [(0,3),(1,3)],2),
 (138,.map 9 4,1),
 (140,.struct [(0,3),(1,43),(2,38),(3,9)],4),
 (142,.func,1),
 (143,.func,1),
 (152,.int .i64,1),
 (160,.int .u32,1),
 (162,.int .u64,1),
 (164,.func,1),
 (165,.struct [(0,3),(1,43),(2,38),(3,9)],4),
 (166,.func,1),
 (170,.func,1),
 (173,.array 3 3,3),
 (175,.func,1),
 (176,.func,1),
 (178,.func,1),
 (179,.func,1),
 (181,.ptr 232,1),
 (184,.ptr 186,1),
 (185,.struct [(0,31),(6,181),(7,3),(8,3),(9,43)],10),
 (186,.struct [(0,31),(6,181),(7,3),(8,3),(9,43)],10),
 (188,.ptr 191,1),
 (189,.slice 1,1),
 (191,.struct [(0,189),(1,4)],2),
 (200,.int .u64,1),
 (204,.ptr 3,1),
 (210,.func,1),
 (216,.func,1),
 (220,.func,1),
 (224,.ptr 254,1),
 (227,.slice 234,1),
 (229,.struct [(0,25),(1,227),(2,3)],3),
 (230,.slice 229,1),
 (232,.struct [(0,229),(3,230),(4,224)],5),
 (234,.ptr 236,1),
 (236,.struct [(0,43)],1),
 (240,.struct [(0,38)],1),
 (245,.ptr 200,1),
 (250,.func,1),
 (254,.struct [(0,43),(1,43)],2),
 (255,.ptr 229,1),
 (270,.slice 164,1),
 (272,.struct [(0,29),(4,3),(5,4)],6),
 (273,.func,1),
 (281,.slice 272,1),
 (286,.func,1),
 (287,.func,1),
 (292,.ptr 43,1),
 (301,.struct [(0,17),(1,17),(2,17),(3,9)],4),
 (305,.int .u8,1),
 (306,.int .u8,1),
 (307,.func,1),
 (308,.ptr 5,1),
 (309,.int .i32,1),
 (310,.int .i32,1),
 (312,.struct [(0,12),(1,12),(2,160),(3,305),(4,5),(5,5),(6,306),(7,307),(8,308),(9,309),(10,310)],11)]
def zt:Ey:=[(1,[.nilFunc]),
 (2,[.int .i64 0]),
 (3,[.int .i64 0]),
 (4,[.bool false]),
 (5,[.int .u8 0]),
 (6,[.int .u8 0]),
 (7,[.int .i64 0,.int .i64 0,.bool false,.int .u8 0]),
 (8,[.int .i64 0,.int .i64 0,.bool false,.int .u8 0]),
 (9,[.string ⟨#[]⟩]),
 (10,[.string ⟨#[]⟩]),
 (11,[.string ⟨#[]⟩]),
 (12,[.int .u64 0]),
 (14,[.string ⟨#[]⟩,.int .u64 0]),
 (15,[.pointer none]),
 (16,[.pointer none]),
 (17,[.pointer none]),
 (19,[.pointer none]),
 (20,[.nilIface]),
 (23,[.slice none 0 0]),
 (24,[.slice none 0 0]),
 (25,[.slice none 0 0]),
 (26,[.slice none 0 0]),
 (27,[.slice none 0 0]),
 (29,[.int .u8 0,.int .i64 0,.string ⟨#[]⟩,.slice none 0 0]),
 (31,[.slice none 0 0,.slice none 0 0,.int .u8 0,.int .i64 0,.string ⟨#[]⟩,.slice none 0 0]),
 (33,[.int .i64 0,.int .i64 0,.int .i64 0]),
 (34,[.int .i64 0,.int .i64 0,.int .i64 0]),
 (36,[.string ⟨#[]⟩,.int .i64 0,.int .i64 0,.int .i64 0,.int .i64 0,.int .i64 0,.slice none 0 0,.slice none 0 0,.int .u8 0,.int .i64 0,.string ⟨#[]⟩,.slice none 0 0]),
 (37,[.pointer none]),
 (38,[.int .i64 0]),
 (40,[.nilFunc]),
 (41,[.nilFunc]),
 (42,[.slice none 0 0]),
 (43,[.slice none 0 0]),
 (44,[.slice none 0 0,.slice none 0 0,.slice none 0 0]),
 (45,[.slice none 0 0,.slice none 0 0,.slice none 0 0]),
 (47,[.bool false,.int .i64 0,.slice none 0 0,.slice none 0 0,.slice none 0 0,.int .i64 0]),
 (52,[.nilFunc]),
 (53,[.slice none 0 0]),
 (57,[.nilFunc]),
 (58,[.nilFunc]),
 (59,[.nilFunc]),
 (60,[.slice none 0 0]),
 (61,[.slice none 0 0]),
 (62,[.slice none 0 0,.slice none 0 0]),
 (63,[.slice none 0 0,.slice none 0 0]),
 (65,[.string ⟨#[]⟩,.string ⟨#[]⟩,.slice none 0 0,.slice none 0 0,.int .u8 0,.int .i64 0,.string ⟨#[]⟩,.slice none 0 0]),
 (66,[.nilFunc]),
 (77,[.string ⟨#[]⟩,.int .u8 0,.int .i64 0]),
 (78,[.map none]),
 (80,[.slice none 0 0,.map none]),
 (83,[.int .i64 0,.bool false]),
 (84,[.map none]),
 (88,[.nilFunc]),
 (91,[.nilFunc]),
 (93,[.nilFunc]),
 (94,[.nilFunc]),
 (98,[.nilFunc]),
 (99,[.nilFunc]),
 (100,[.nilFunc]),
 (101,[.nilFunc]),
 (102,[.nilFunc]),
 (104,[.slice none 0 0,.slice none 0 0,.slice none 0 0,.int .i64 0,.int .i64 0]),
 (105,[.nilFunc]),
 (107,[.nilFunc]),
 (108,[.nilFunc]),
 (109,[.nilFunc]),
 (110,[.string ⟨#[]⟩,.int .i64 0,.bool false]),
 (111,[.string ⟨#[]⟩,.int .i64 0,.bool false]),
 (112,[.nilFunc]),
 (114,[.nilFunc]),
 (115,[.string ⟨#[]⟩,.slice none 0 0,.int .u8 0,.int .i64 0,.string ⟨#[]⟩,.slice none 0 0]),
 (116,[.string ⟨#[]⟩,.slice none 0 0,.int .u8 0,.int .i64 0,.string ⟨#[]⟩,.slice none 0 0]),
 (117,[.nilFunc]),
 (119,[.nilFunc]),
 (120,[.nilFunc]),
 (121,[.nilFunc]),
 (122,[.nilFunc]),
 (123,[.nilFunc]),
 (124,[.int .u64 0]),
 (125,[.nilFunc]),
 (126,[.slice none 0 0]),
 (128,[.slice none 0 0]),
 (131,[.slice none 0 0]),
 (135,[.int .i64 0,.int .i64 0]),
 (138,[.map none]),
 (140,[.int .i64 0,.slice none 0 0,.int .i64 0,.string ⟨#[]⟩]),
 (142,[.nilFunc]),
 (143,[.nilFunc]),
 (152,[.int .i64 0]),
 (160,[.int .u32 0]),
 (162,[.int .u64 0]),
 (164,[.nilFunc]),
 (165,[.int .i64 0,.slice none 0 0,.int .i64 0,.string ⟨#[]⟩]),
 (166,[.nilFunc]),
 (170,[.nilFunc]),
 (173,[.int .i64 0,.int .i64 0,.int .i64 0]),
 (175,[.nilFunc]),
 (176,[.nilFunc]),
 (178,[.nilFunc]),
 (179,[.nilFunc]),
 (181,[.pointer none]),
 (184,[.pointer none]),
 (185,[.slice none 0 0,.slice none 0 0,.int .u8 0,.int .i64 0,.string ⟨#[]⟩,.slice none 0 0,.pointer none,.int .i64 0,.int .i64 0,.slice none 0 0]),
 (186,[.slice none 0 0,.slice none 0 0,.int .u8 0,.int .i64 0,.string ⟨#[]⟩,.slice none 0 0,.pointer none,.int .i64 0,.int .i64 0,.slice none 0 0]),
 (188,[.pointer none]),
 (189,[.slice none 0 0]),
 (191,[.slice none 0 0,.bool false]),
 (200,[.int .u64 0]),
 (204,[.pointer none]),
 (210,[.nilFunc]),
 (216,[.nilFunc]),
 (220,[.nilFunc]),
 (224,[.pointer none]),
 (227,[.slice none 0 0]),
 (229,[.slice none 0 0,.slice none 0 0,.int .i64 0]),
 (230,[.slice none 0 0]),
 (232,[.slice none 0 0,.slice none 0 0,.int .i64 0,.slice none 0 0,.pointer none]),
 (234,[.pointer none]),
 (236,[.slice none 0 0]),
 (240,[.int .i64 0]),
 (245,[.pointer none]),
 (250,[.nilFunc]),
 (254,[.slice none 0 0,.slice none 0 0]),
 (255,[.pointer none]),
 (270,[.slice none 0 0]),
 (272,[.int .u8 0,.int .i64 0,.string ⟨#[]⟩,.slice none 0 0,.int .i64 0,.bool false]),
 (273,[.nilFunc]),
 (281,[.slice none 0 0]),
 (286,[.nilFunc]),
 (287,[.nilFunc]),
 (292,[.pointer none]),
 (301,[.pointer none,.pointer none,.pointer none,.string ⟨#[]⟩]),
 (305,[.int .u8 0]),
 (306,[.int .u8 0]),
 (307,[.nilFunc]),
 (308,[.pointer none]),
 (309,[.int .i32 0]),
 (310,[.int .i32 0]),
 (312,[.int .u64 0,.int .u64 0,.int .u32 0,.int .u8 0,.int .u8 0,.int .u8 0,.int .u8 0,.nilFunc,.pointer none,.int .i32 0,.int .i32 0])]
def Ac:TabOk prog tab:=TabOk.of_check (by kernel_rfl)
def CJ:Ct prog zt:=by repeat (first|refine ⟨by kernel_rfl,?_⟩|exact trivial)
def mixed:prog.follows .mixedOrders=true:=by kernel_rfl
def New.put {us:lV} (h:New w w' b vs) (p:Put w' w0 b us):New w w0 b us:=
 ⟨h.pos,p.blk,⟨p.fr.os.trans (Below.os h.ext),p.fr.tape.trans (lT h.ext),p.fr.output.trans (lM h.ext),jg h.ext.size p.fr.size,
  λk M=>(p.fr.block k (js M h.ext.size) (by have:=h.pos;omega)).trans (h.ext.block M)⟩,by rw [p.size,h.size]⟩
def Blk.put {c:Nat} {us:lV} (h:Blk w c us) (p:Put w w' b vs) (G:c≠b):Blk w' c us:=h.fr p.fr G
section seqs
variable {P:Program} {n:Nat} {ops:Array Oper} {Q:Exit->Act->wD->Prop} {rest:List Oper} {l:Sl} {w:wD} {tab:Tab}
 {d:Nat} {ty:TypeId} {pos:String} {after:Array Edge}
def LZ (G:ev l x=some v) (M:v.cells=vs.toArray) (N:iE d n=true)
 (k:∀b w1,New w w1 b vs->LW P n ops Q rest ((d,.pointer (some ⟨b,0,none⟩))::l) w1):LW P n ops Q (⟨some d,.box t x,ty,pos,after,none⟩::rest) l w:=
 Ax (Hb G M) N (λ_ w1 ⟨b,h,hn⟩=>h▸k b w1 hn) (λ_ h=>h)
def Hc {zt:Ey} (Z:Ct P zt) (G:CP zt t=some vs) (M:iE d n=true)
 (k:∀b w1,New w w1 b vs->LW P n ops Q rest ((d,.pointer (some ⟨b,0,none⟩))::l) w1):LW P n ops Q (⟨some d,.alloc t,ty,pos,after,none⟩::rest) l w:=
 Ax (Bb Z G) M (λ_ w1 ⟨b,h,hn⟩=>h▸k b w1 hn) (λ_ h=>h)
def L0 {us:lV} (T:TabOk P tab) (G:AB tab t=some (s,sz)) (M:ev l x=some (.pointer (some ⟨b,o,none⟩))) (N:ev l z=some v)
 (O:v.cells=us.toArray) (U:us.length=sz) (V:us.all Value.one=true) (X:Blk w b vs) (Y:jr (o+us.length) vs.length=true)
 (k:∀w1,Put w w1 b (A7 vs o us)->LW P n ops Q rest l w1):LW P n ops Q (⟨none,.store t x z,ty,pos,after,none⟩::rest) l w:=
 A6 (D1 T G M N O U V X Y) (λv w1 h=>by cases v with|none=>exact k w1 h|some _=>exact h.elim)
def JC {us:lV} (T:TabOk P tab) (N:AB tab t=some (s,sz)) (O:ev l x=some (.pointer (some ⟨b,0,none⟩))) (U:ev l z=some v)
 (V:v.cells=us.toArray) (X:us.length=sz) (Y:us.all Value.one=true) (G:New w0 w b vs) (M:us.length=vs.length)
 (k:∀w1,New w0 w1 b us->LW P n ops Q rest l w1):LW P n ops Q (⟨none,.store t x z,ty,pos,after,none⟩::rest) l w:=
 L0 T N O U V X Y G.blk (by simp [M]) (λw1 p=>k w1 (G.put (by
  have e:A7 vs 0 us=us:=by
   have key:∀(us vs pre:lV),us.length=vs.length->A7 (pre++vs) pre.length us=pre++us:=by
    intro us
    induction us with
    | nil=>intro vs pre h;cases vs with|nil=>simp [A7]|cons _ _=>simp at h
    | cons u r Z=>
     intro vs pre h;cases vs with
     | nil=>simp at h
     | cons x vs=>
      simp only [A7];have:(pre++x::vs).set pre.length u=(pre++[u])++vs:=by simp
      rw [this];have:=Z vs (pre++[u]) (by simpa using h);simp only [iq,gV,iG] at this;rw [this];simp
   simpa using key us vs [] M
  rw [e] at p;exact p)))
end seqs
def Wq (v:lV):∀(cells:Array Value) (h j:Nat),((v.zipIdx j).foldl (λcs (c:Value×Nat)=>cs.setIfInBounds (h+c.2) c.1) cells).toList=A7 cells.toList (h+j) v:=by
 induction v with
 | nil=>intro cells h j;simp [A7]
 | cons x r G=>
  intro cells h j;simp only [List.zipIdx_cons,List.foldl_cons,A7];rw [G];simp only [Array.toList_setIfInBounds];rw [show h+(j+1)=h+j+1 from by omega]
def IM:List (Nat×Nat×lV)->lV->Option lV
 | [],cells=>some cells
 | (off,size,v)::r,cells=>match jv v.length size with
  | true=>match jr (off+size) cells.length with
   | true=>IM r (A7 cells off v)
   | false=>none
  | false=>none
def OZ {M:Nat->Option (Nat×Nat)}:∀(ps:List (Nat×Value)) (N:List (Nat×Nat×lV)) (cells:Array Value) (out:lV),
 ps.length=N.length->(∀(i:Nat) (p:Nat×Value) (q:Nat×Nat×lV),ps[i]? = some p->N[i]? = some q->M p.1=some (q.1,q.2.1)/\p.2.cells=q.2.2.toArray)->IM N cells.toList=some out->Instr.fill M cells ps=some out.toArray
 | [],[],cells,out,_,_,h=>by simp only [IM,gU] at h;subst h;simp [Instr.fill]
 | [],_::_,_,_,O,_,_=>by simp at O
 | _::_,[],_,_,O,_,_=>by simp at O
 | (i,v)::ps,(G,size,us)::N,cells,out,O,Z,h=>by
  obtain ⟨h1,U⟩:=Z 0 _ _ rfl rfl;simp only at h1 U;simp only [IM] at h;split at h
  . rename_i e1;split at h
    . rename_i e2;have V:=iM e1;have X:=iA e2;simp only [ju] at X;have Y:v.cells.size=us.length:=by rw [U];simp
      simp only [Instr.fill,h1];have hc:¬(decide (v.cells.size≠size)||decide (G+v.cells.size>cells.size))=true:=by simp [Y,V];omega
      rw [At (by simpa using hc)];refine OZ ps N _ out (by simpa using O) (λj p q hj hq=>Z (j+1) p q hj hq) ?_;have hz:v.cells.zipIdx.foldl (λcs (c:Value×Nat)=>cs.setIfInBounds (G+c.2) c.1) cells=(A7 cells.toList G us).toArray:=by
       apply lg;rw [<-Array.foldl_toList];have:=Wq us cells G 0;simpa [U,Array.toList_zipIdx] using this
      rw [show (v.cells.zipIdx.foldl (λcs x=>match x with|(c,j)=>cs.setIfInBounds (G+j) c) cells)=(A7 cells.toList G us).toArray from hz];simpa using h
    . cases h
  . cases h
def Qd:∀(us vs pre post:lV),us.length=vs.length->A7 (pre++vs++post) pre.length us=pre++us++post:=by
 intro us
 induction us with
 | nil=>intro vs pre post h;cases vs with|nil=>simp [A7]|cons _ _=>simp at h
 | cons u r G=>
  intro vs pre post h;cases vs with
  | nil=>simp at h
  | cons x vs=>
   simp only [A7];have e:(pre++x::vs++post).set pre.length u=(pre++[u])++vs++post:=by simp
   rw [e];have:=G vs (pre++[u]) post (by simpa using h);simp only [iq,gV,iG] at this;rw [this];simp
def He (size:Nat):Nat->List lV->List (Nat×Nat×lV)
 | _,[]=>[]
 | k,v::r=>(k*size,size,v)::He size (k+1) r
def NS (size:Nat):∀(G:List lV) (k:Nat) (pre rest:lV),pre.length=k*size->(∀v∈G,v.length=size)->rest.length=G.length*size ->
 IM (He size k G) (pre++rest)=some (pre++G.flatten)
 | [],k,pre,rest,_,_,h=>by
  have:rest=[]:=by simpa using h
  subst this;simp [He,IM]
 | v::r,k,pre,rest,U,V,X=>by
  have M:=V v je;simp only [gV,jQ,Nat.one_mul] at X;have N:rest=rest.take size++rest.drop size:=(iX _ _).symm;have O:(rest.take size).length=v.length:=by rw [iO,M];omega
  simp only [He,IM];have Y:jv v.length size=true:=by rw [M];exact Nat.beq_refl size
  have Z:jr (k*size+size) (pre++rest).length=true:=Nat.ble_eq_true_of_le (by rw [iq];omega);rw [Y];simp only;rw [Z];simp only;have e:A7 (pre++rest) (k*size) v=pre++v++rest.drop size:=by
   have:=Qd v (rest.take size) pre (rest.drop size) O.symm;rw [iI,<-N,U] at this;exact this
  rw [e];have:=NS size r (k+1) (pre++v) (rest.drop size) (by rw [iq,U,M,jQ,Nat.one_mul]) (λu hu=>V u (iU _ hu)) (by rw [kd];omega);rw [this];simp
def GI (l:Sl):Nat->List (Nat×Operand)->Option lV
 | _,[]=>some []
 | k,(i,x)::r=>match jv i k with
  | true=>match ev l x with
   | some v=>match GI l (k+1) r with
    | some vs=>some (v::vs)
    | none=>none
   | none=>none
  | false=>none
def JD {n:Nat} {l:Sl} {a:Act} (M:Env n l a):∀(ps:List (Nat×Operand)) (k:Nat) (vs:lV),GI l k ps=some vs->ps.map (λp=>(p.1,a.eval p.2))=(vs.zipIdx k).map (λv=>(v.2,v.1))
 | [],k,vs,h=>by simp only [GI,gU] at h;subst h;rfl
 | (i,x)::r,k,vs,h=>by
  simp only [GI] at h;split at h
  . rename_i N;have G:=iM N;split at h
    . rename_i v O;split at h
      . rename_i us U;simp only [gU] at h;subst h G;simp [M.ev O,JD M r _ _ U]
      . cases h
    . cases h
  . cases h
def O0 (w:wD) (len:Nat) (vs:lV) (T:TypeId):Option Value->wD->Prop
 | some v,w1=> ∃b,v = .slice (some ⟨b,0,none⟩) len len/\New w w1 b vs/\w1.heap[b]? = some (.cells vs.toArray T (0,0))
 | none,_=>False
def NT (size:Nat):∀(G:List lV) (k i:Nat) (q:Nat×Nat×lV),(He size k G)[i]? = some q -> ∃v,G[i]? = some v/\q=((k+i)*size,size,v)
 | [],_,_,_,h=>by simp [He] at h
 | v::r,k,0,q,h=>by simp [He] at h;exact ⟨v,rfl,by simp [h]⟩
 | v::r,k,i+1,q,h=>by
  simp only [He,kI] at h;obtain ⟨u,M,N⟩:=NT size r (k+1) i q h;exact ⟨u,by simpa using M,by rw [N];congr 2;omega⟩
def JE (size:Nat):∀(h:List lV) (k:Nat),(He size k h).length=h.length
 | [],_=>rfl
 | _::r,k=>by simp [He,JE size r]
section does
variable {tab:Tab} {zt:Ey}
def Sj {len:Nat} (T:TabOk P tab) (Z:Ct P zt) (ht:AB tab t=some (.slice e,sz)) (hE:AB tab e=some (s,b))
 (hz:CP zt e=some zs) (hp:GI l 0 ps=some vs) (hl:vs.length=len) (hc:vs.all (λv=>jv v.cells.size b)=true) (hm:jr (len*b) 10000=true) (hn0:iE 0 (len*b)=true) :
 BE P n l (.buildSlice t len ps.toArray) ty w (O0 w len (vs.map (·.cells.toList)).flatten e):=by
 unfold BE;intro a dst pos after g next Q ha hn _;have hu:P.underlying t=some (.slice e):=(T _ _ _ ht).under;have hm':=iA hm;have hn0':0<len*b:=iA hn0;obtain ⟨i0,v0,z1,z2,z3⟩:=E5 Z hz;have hps:=JD ha ps 0 vs hp;have hlen:∀v∈vs,v.cells.size=b:=λv hv=>iM (iN.1 hc v hv)
 have hfill:∀cells:Array Value,cells.size=len*b->Instr.fill (λi=>some (i*b,b)) cells ((vs.zipIdx 0).map (λv=>(v.2,v.1)))=some (vs.map (·.cells.toList)).flatten.toArray:=λcells hcs=>by
  refine OZ _ (He b 0 (vs.map (·.cells.toList))) cells _ (by simp [JE]) ?_ ?_
  . intro i p q hi hq;obtain ⟨v,hv,rfl⟩:=NT b _ 0 i q hq;simp only [iJ,lu] at hv hi;obtain ⟨x,hx,rfl⟩:=hv;obtain ⟨y,hy,rfl⟩:=hi;rw [List.getElem?_zipIdx] at hy;rw [hx] at hy;simp only [jI,gU] at hy;subst hy;simp
  . have:=NS b (vs.map (·.cells.toList)) 0 [] cells.toList (by simp) (by simpa using hlen) (by simp [hcs,hl]);simpa using this
 have e1:(execOp a.eval ⟨dst,.buildSlice t len ps.toArray,ty,pos,after,g⟩).run P w = .ok (.value (.slice (some ⟨w.heap.size,0,none⟩) len len)) (w.alloc (.cells (vs.map (·.cells.toList)).flatten.toArray e (0,0))):=by
  have hpa:(ps.toArray.map λ(p:Nat×Operand)=>(p.1,a.eval p.2)).toList=(vs.zipIdx 0).map (λv=>(v.2,v.1)):=by simpa using hps
  have hb:(Instr.buildSlice t len (ps.toArray.map λ(p:Nat×Operand)=>(p.1,a.eval p.2))).run P w = .ok (.slice (some ⟨w.heap.size,0,none⟩) len len) (w.alloc (.cells (vs.map (·.cells.toList)).flatten.toArray e (0,0))):=by
   simp only [Instr.buildSlice,ij,AD hu,gY,Ca (T _ _ _ hE),hpa];rw [At (by omega)];simp only [At (show ¬len*b=0 by omega),zeroValue,typeInfo,program,jP,z1,z2,bind,Sem.bind,pure];rw [hfill _ (by simp)];simp only [newRow,newObj,bind,Sem.bind,jP,pure];rfl
  simp only [execOp,ij];rw [show (ps.toArray.map λx=>match x with|(i,x)=>(i,a.eval x))=ps.toArray.map λ(p:Nat×Operand)=>(p.1,a.eval p.2) from rfl,hb];rfl
 unfold jy;rw [e1];exact hn _ _ ⟨_,rfl,EB _ _ _,by show (w.heap.push _)[w.heap.size]? = _;simp⟩
def BF {a:Addr} (h:ev l x=some (.pointer (some a))):Br P n l S (.nilCheck x) ty (.pointer (some a)):=by
 unfold Br;intro a w G pos after g M _;simp [execOp,M.ev h]
def I2 (tab:Tab) (fs:List (Nat×Nat)) (l:Sl):List (Nat×Operand)->Option (List (Nat×Value)×List (Nat×Nat×lV))
 | []=>some ([],[])
 | (i,x)::r=>match fs[i]? with
  | some (off,ft)=>match AB tab ft with
   | some (_,sz)=>match ev l x with
    | some v=>match I2 tab fs l r with
     | some (ps,qs)=>some ((i,v)::ps,(off,sz,v.cells.toList)::qs)
     | none=>none
    | none=>none
   | none=>none
  | none=>none
def K8 {a:Act} {Z:List (Nat×Nat)} {gs:Array Field} (T:TabOk P tab) (ha:Env n l a) (hg:∀(i o G:Nat),Z[i]? = some (o,G) -> ∃g:Field,gs[i]? = some g/\g.offset=o/\g.type=G /\ ∃j:TypeInfo,P.info? G=some j/\j.size≠0)
 {pl:Array (Nat×Nat)} (M:∀(i:Nat) (g:Field) (s:Sk) (sz:Nat),gs[i]? = some g->TyOk P g.type s sz->pl[i]? = some (g.offset,sz)):∀(xs:List (Nat×Operand)) (ps:List (Nat×Value)) (N:List (Nat×Nat×lV)),I2 tab Z l xs=some (ps,N) ->
  xs.map (λp=>(p.1,a.eval p.2))=ps/\ps.length=N.length /\ ∀(i:Nat) (p:Nat×Value) (q:Nat×Nat×lV),ps[i]? = some p->N[i]? = some q->pl[p.1]? = some (q.1,q.2.1)/\p.2.cells=q.2.2.toArray
 | [],ps,N,h=>by simp only [I2,gU,kE] at h;obtain ⟨rfl,rfl⟩:=h;simp
 | (i,x)::r,ps,N,h=>by
  simp only [I2] at h;split at h
  . rename_i O G hf;split at h
    . rename_i s sz ht;split at h
      . rename_i v hv;split at h
        . rename_i U V hr;simp only [gU,kE] at h;obtain ⟨rfl,rfl⟩:=h;obtain ⟨h1,h2,h3⟩:=K8 T ha hg M r U V hr;refine ⟨by simp [ha.ev hv,h1],by simp [h2],?_⟩;rintro (_|j) p q X Y
          . simp only [iw,gU] at X Y;subst X Y;obtain ⟨g,g1,g2,g3,-⟩:=hg i O G hf;refine ⟨?_,by simp⟩;have:=M i g s sz g1 (by rw [g3];exact T _ _ _ ht);rw [g2] at this;exact this
          . exact h3 j p q (by simpa using X) (by simpa using Y)
        . cases h
      . cases h
    . cases h
  . cases h
def NU:∀(N:List Field),(∀f∈N,∃i,P.info? f.type=some i) -> ∃pl:List (Nat×Nat),N.mapM (λf=>(P.info? f.type).map λi=>(f.offset,i.size))=some pl /\ ∀(i:Nat) (g:Field) (s:Sk) (sz:Nat),N[i]? = some g->TyOk P g.type s sz->pl[i]? = some (g.offset,sz)
 | [],_=>⟨[],by simp,by simp⟩
 | f::r,h=>by
  obtain ⟨i,O⟩:=h f je;obtain ⟨pl,V,X⟩:=NU r (λg G=>h g (iU _ G));refine ⟨(f.offset,i.size)::pl,by simp [O,V],?_⟩;rintro (_|j) g s sz G U
  . simp only [iw,gU] at G;subst G;obtain ⟨Z,M,Y⟩:=U.info;rw [O] at M;injection M with M
    subst M;simp [Y]
  . exact X j g s sz (by simpa using G) U
def Uy {xs:List (Nat×Operand)} {ps:List (Nat×Value)} {G:List (Nat×Nat×lV)} {out:lV} (T:TabOk P tab) (Z:Ct P zt)
 (U:AB tab t=some (.struct h,sz)) (V:CP zt t=some zs) (X:I2 tab h l xs=some (ps,G)) (Y:IM G zs=some out):Br P n l S (.build t xs.toArray) ty (.agg out.toArray):=by
 unfold Br;intro a w aa pos after g ha _;obtain ⟨N,h1,h2,O⟩:=(T _ _ _ U).under;obtain ⟨i0,v0,z1,z2,z3⟩:=E5 Z V;obtain ⟨pl,p1,p2⟩:=NU (P:=P) N.toList (λf hf=>by
  obtain ⟨i,hi,rfl⟩:=List.mem_iff_getElem.1 hf;have M:i<h.length:=by simpa [h2] using hi
  obtain ⟨g,g1,g2,g3,j,g4,-⟩:=O i h[i].1 h[i].2 (gN M);have:N.toList[i]=g:=by
   have:=Array.getElem?_eq_some_iff.1 g1;simpa using this.2
  rw [this,g3];exact ⟨j,g4⟩)
 obtain ⟨q1,q2,q3⟩:=K8 T ha O (pl:=pl.toArray) (λi g s sz hg hk=>by simpa using p2 i g s sz (by simpa using hg) hk) xs ps G X;have hb:P.built t (xs.toArray.map λ(p:Nat×Operand)=>(p.1,a.eval p.2)).toList=some out.toArray:=by
  unfold Program.built;simp only [z1,h1,z2,p1];rw [show (xs.toArray.map λ(p:Nat×Operand)=>(p.1,a.eval p.2)).toList=ps from by simpa using q1];exact OZ ps G v0.cells out q2 q3 (by rw [z3];simpa using Y)
 have:=run_build w t _ _ hb;simp only [execOp,ij];rw [show (xs.toArray.map λx=>match x with|(i,x)=>(i,a.eval x))=xs.toArray.map λ(p:Nat×Operand)=>(p.1,a.eval p.2) from rfl,this];rfl
end does
def Row.sub (h:Row w ⟨b,o,none⟩ vs) (i k:Nat):Row w ⟨b,o+i,none⟩ ((vs.drop i).take k):=λj v G=>by
 have M:vs[i+j]? = some v:=by
  rw [lH] at G;split at G
  . rwa [List.getElem?_drop] at G
  . cases G
 have:=h.at M;have e:(⟨b,o+i,none⟩:Addr).add j=⟨b,o+(i+j),none⟩:=by unfold jA;by_cases N:j=0<;>simp [N,lG]
 rw [e];exact this
section parts
variable {tab:Tab}
def EZ (T:TabOk P tab) (h:AB tab t=some (s,sz)) (G:s.agg=true) (M:ev l x=some (.pointer (some ⟨b,o,none⟩)))
 (N:∀w,S w->Blk w b vs) (O:jr (o+sz) vs.length=true):Br P n l S (.load t x) ty (.agg ((vs.drop o).take sz).toArray):=
 Ij T h G M (by have:=iA O;simp;omega) (λw U=>by have:=(N w U).row.sub o sz;simpa using this)
def IN (T:TabOk P tab) (h:AB tab t=some (s,sz)) (G:s.agg=true) (M:ev l x=some (.pointer (some ⟨b,o+i,none⟩)))
 (N:∀w,S w->Row w ⟨b,o,none⟩ vs) (O:jr (i+sz) vs.length=true):Br P n l S (.load t x) ty (.agg ((vs.drop i).take sz).toArray):=
 Ij T h G M (by have:=iA O;simp;omega) (λw U=>(N w U).sub i sz)
end parts
def Uz {tab:Tab} {a:lB} (T:TabOk P tab) (h:AB tab t=some (.str,sz)) (G:ev l x=some (str a)):Br P n l S (.call ⟨.builtin .len,#[x],#[t]⟩) ty (.int .i64 a.length):=Qc T (pt:=true) h G
def Arr {α:Type} (S:nP) (sz:Nat) (E:wD->Nat->Nat->α->Prop) (w:wD) (l:List α) (a:oA):Prop:=
 l=[] \/ ∃b o,a=some ⟨b,o,none⟩/\S b /\ ∀i x,l[i]? = some x->E w b (o+i*sz) x
def Arr.mono {S:nP} {E G:wD->Nat->Nat->α->Prop} {l:List α} {a:oA} (h:Arr S sz E w l a) (O:∀b,S b->S' b) (U:∀b o x,x∈l->S b->E w b o x->G w' b o x):Arr S' sz G w' l a:=by
 rcases h with h|⟨b,o,V,M,X⟩
 . exact gP h
 . exact gQ ⟨b,o,V,O b M,λi x N=>U _ _ _ (iF N) M (X i x N)⟩
def Arr.get {S:nP} {E:wD->Nat->Nat->α->Prop} {l:List α} {a:oA} (h:Arr S sz E w l a) (G:0<l.length) :
 ∃b o,a=some ⟨b,o,none⟩/\S b /\ ∀i x,l[i]? = some x->E w b (o+i*sz) x:=by
 rcases h with h|h
 . subst h;simp at G
 . exact h
def TB (w:wD) (b:Nat) (vs:lV) (T:TypeId):Prop:=w.heap[b]? = some (.cells vs.toArray T (0,0))
def TB.blk {T:TypeId} (h:TB w b vs T):Blk w b vs:=⟨T,h⟩
def TB.ext {T:TypeId} (h:TB w b vs T) (e:Ext w w'):TB w' b vs T:=(e.block h.blk.lt).trans h
def TB.set {w:wD} {b i:Nat} {vs:lV} {T:TypeId} (h:TB w b vs T) (v:Value):TB (w.setCell ⟨b,i,none⟩ v) b (vs.set i v) T:=by
 have G:w.heap[b]? = some (.cells vs.toArray T (0,0)):=h;unfold TB;simp [World.setCell,jN,G]
def Fc {P:Program} {T:TypeId}:∀(us:lV) (w:wD) (b o i:Nat) (vs:lV),TB w b vs T->o+i+us.length<=vs.length->us.all Value.one=true ->
 ∃w1,(storeCells ⟨b,o,none⟩ us i).run P w = .ok () w1/\Put w w1 b (A7 vs (o+i) us)/\TB w1 b (A7 vs (o+i) us) T
 | [],w,b,o,i,vs,h,_,_=>⟨w,rfl,⟨h.blk,Fr.refl _ _,rfl⟩,h⟩
 | u::r,w,b,o,i,vs,h,N,G=>by
  simp only [gV] at N;simp only [kU,gR] at G;have O:(⟨b,o,none⟩:Addr).add i=⟨b,o+i,none⟩:=by unfold jA;by_cases U:i=0<;>simp [U]
  have e:(storeCells ⟨b,o,none⟩ (u::r) i).run P w=(storeCells ⟨b,o,none⟩ r (i+1)).run P (w.setCell ⟨b,o+i,none⟩ u):=by
   simp only [storeCells,store,O,bind,Sem.bind];exact NR h.blk (by omega) G.1 _
  obtain ⟨w1,V,M,X⟩:=Fc (P:=P) r _ b o (i+1) _ (h.set (i:=o+i) u) (by simp;omega) G.2;refine ⟨w1,by rw [e,V],⟨M.blk,((Fr.refl (· = b) w).setCell ⟨b,o+i,none⟩ u (gP rfl)).trans M.fr,?_⟩,X⟩;rw [M.size];simp [World.setCell]
section typed
variable {P:Program} {n:Nat} {ops:Array Oper} {Q:Exit->Act->wD->Prop} {rest:List Oper} {l:Sl} {w:wD} {tab:Tab}
 {d:Nat} {ty:TypeId} {pos:String} {after:Array Edge}
def Wr (w:wD) (vs:lV) (T:TypeId):Option Value->wD->Prop
 | some v,w1=> ∃b,v = .pointer (some ⟨b,0,none⟩)/\New w w1 b vs/\TB w1 b vs T
 | none,_=>False
def JF (w:wD) (vs:lV) (T:TypeId):TB (w.alloc (.cells vs.toArray T (0,0))) w.heap.size vs T:=by show (w.heap.push _)[w.heap.size]? = _;simp
def UA (hx:ev l x=some v) (hv:v.cells=vs.toArray):BE P n l (.box t x) ty w (Wr w vs t):=by
 unfold BE;intro a dst pos after g next Q ha hn _;have e:(execOp a.eval ⟨dst,.box t x,ty,pos,after,g⟩).run P w = .ok (.value (.pointer (some ⟨w.heap.size,0,none⟩))) (w.alloc (.cells vs.toArray t (0,0))):=by
  simp [execOp,ha.ev hx,Instr.box,newVar,newRow,newObj,jP,hv,bind,Sem.bind,pure]
 unfold jy;rw [e];exact hn _ _ ⟨_,rfl,EB _ _ _,JF _ _ _⟩
def Qe {zt:Ey} (Z:Ct P zt) (hz:CP zt t=some vs):BE P n l (.alloc t) ty w (Wr w vs t):=by
 unfold BE;intro a dst pos after g next Q ha hn _;obtain ⟨i,v,h1,h2,h3⟩:=E5 Z hz;have e:(execOp a.eval ⟨dst,.alloc t,ty,pos,after,g⟩).run P w = .ok (.value (.pointer (some ⟨w.heap.size,0,none⟩))) (w.alloc (.cells vs.toArray t (0,0))):=by
  simp [execOp,Instr.alloc,zeroValue,typeInfo,program,newVar,newRow,newObj,jP,h1,h2,h3,bind,Sem.bind,pure]
 unfold jy;rw [e];exact hn _ _ ⟨_,rfl,EB _ _ _,JF _ _ _⟩
def LO (G:ev l x=some v) (M:v.cells=vs.toArray) (N:iE d n=true)
 (k:∀b w1,New w w1 b vs->TB w1 b vs t->LW P n ops Q rest ((d,.pointer (some ⟨b,0,none⟩))::l) w1):LW P n ops Q (⟨some d,.box t x,ty,pos,after,none⟩::rest) l w:=
 Ax (UA G M) N (λ_ w1 ⟨b,h,hn,ht⟩=>h▸k b w1 hn ht) (λ_ h=>h)
def UB {zt:Ey} (Z:Ct P zt) (G:CP zt t=some vs) (M:iE d n=true)
 (k:∀b w1,New w w1 b vs->TB w1 b vs t->LW P n ops Q rest ((d,.pointer (some ⟨b,0,none⟩))::l) w1):LW P n ops Q (⟨some d,.alloc t,ty,pos,after,none⟩::rest) l w:=
 Ax (Qe Z G) M (λ_ w1 ⟨b,h,hn,ht⟩=>h▸k b w1 hn ht) (λ_ h=>h)
end typed
def Fr.of_grown {row:Option Nat} (h:w.grownBy w' row):Fr (λk=>some k=row) w w':=⟨h.os,h.tape,h.output,h.size,λk G M=>h.block k G M⟩
abbrev Own (w:wD) (b:Nat) (e:TypeId) (sz:Nat) (v:Value) (n:Nat) (cs:lV):Prop:=w.ownsRow b e sz v n cs
def Own.nil:Own w b e sz (.slice none 0 0) 0 []:=⟨by simp,gP ⟨rfl,rfl⟩⟩
def Own.ext (h:Own w b e sz v n cs) (x:Ext w w'):Own w' b e sz v n cs:=by
 refine h.kept (row:=none) ⟨Below.os x,lT x,lM x,Below.size x,λk G _=>x.block G⟩ ?_;cases hv:v.ownBlock<;>simp
def Own.blk (h:Own w b e sz v n cs) {k:Nat} (G:v.ownBlock=some k):b<=k/\k<w.heap.size:=by
 obtain ⟨-,⟨rfl,-⟩|⟨g,cap,cur,rfl,O,N,-⟩⟩:=h
 . simp [jB] at G
 . simp [jB] at G;subst G;refine ⟨O,?_⟩;rcases it g w.heap.size with M|M
   . exact M
   . rw [iQ M] at N;cases N
def Own.fr {S:nP} (h:Own w b e sz v n cs) (x:Fr S w w') (N:∀k,v.ownBlock=some k -> ¬S k):Own w' b e sz v n cs:=by
 have O:∀k,v.ownBlock=some k->b<=k/\k<w.heap.size:=λk U=>h.blk U
 obtain ⟨M,V|⟨g,cap,cur,rfl,X,Y,Z⟩⟩:=h
 . exact ⟨M,gP V⟩
 . obtain ⟨-,G⟩:=O g rfl;exact ⟨M,gQ ⟨g,cap,cur,rfl,X,by rw [x.block g G (N g rfl)];exact Y,Z⟩⟩
def Own.row (h:Own w b e sz v n cs):(v = .slice none 0 0/\n=0/\cs=[]) \/ ∃g cap,v = .slice (some ⟨g,0,none⟩) n cap/\b<=g/\v.ownBlock=some g/\Row w ⟨g,0,none⟩ cs:=by
 obtain ⟨N,⟨rfl,rfl⟩|⟨g,cap,cur,rfl,O,U,-,-,-,V⟩⟩:=h
 . exact gP ⟨rfl,rfl,by simpa using N⟩
 . refine gQ ⟨g,cap,rfl,O,rfl,λi u G=>?_⟩;have e:(⟨g,0,none⟩:Addr).add i=⟨g,i,none⟩:=by unfold jA;by_cases X:i=0<;>simp [X]
   rw [e];rw [<-V] at G;have M:cur.toList[i]? = some u:=by
    rw [lH] at G;split at G
    . exact G
    . cases G
   simpa [World.cell?,U] using M
def fS (w:wD) (b:Nat) (e:TypeId) (sz:Nat) (v:Value) (n:Nat) (cs:lV):Option Value->wD->Prop
 | some v',w'=>Own w' b e sz v' n cs/\Fr (λk=>v.ownBlock=some k) w w' /\ ∃g cap,v' = .slice (some ⟨g,0,none⟩) n cap/\(v.ownBlock=some g\/w.heap.size<=g)
 | none,_=>False
def Dt (P:Program) (e:TypeId):Bool:=match P.info? e with
 | some i=>jr i.bytes 1000
 | none=>false
def TI (v:Value):Value.one v=v.oneCell':=by cases v<;>rfl
section app
variable {tab:Tab} {zt:Ey}
def D9 {k m cap:Nat} {us:lV} {p:Addr} (T:TabOk P tab) (Z:Ct P zt) (ht:AB tab t=some (.slice e,t')) (hE:AB tab e=some (s,sz)) (hz:CP zt e=some zs) (hzl:zs.length=sz)
 (hby:Dt P e=true) (hsz:iE 0 sz=true) (hx:ev l x=some v) (hy:ev l z=some (.slice (some p) m cap)) (hown:Own w b e sz v k cs) (hr:Row w p us) (hul:us.length=m*sz) (hu:us.all Value.one=true) (hkm:k+m<=100000000000) (hm0:0<k+m) (hb:b<=w.heap.size) :
 BE P n l (.call ⟨.builtin .append,#[x,z],#[t,t]⟩) ty w (fS w b e sz v (k+m) (cs++us)):=by
 unfold BE;intro a dst pos after g next Q ha hn _;obtain ⟨i,v0,z1,z2,z3⟩:=E5 Z hz;obtain ⟨i',hi',hs'⟩:=(T _ _ _ hE).info;rw [z1] at hi';obtain rfl:=gZ hi';have hbb:i.bytes<=1000:=by
  unfold Dt at hby;rw [z1] at hby;exact iA hby
 have hzs:v0.cells.size=sz:=by rw [z3];simpa using hzl
 have hsz':0<sz:=iA hsz;have hbytes:(k+m)*i.bytes<=140737488355328:=by have:=lS hkm hbb;omega
 have hnews:∀j u,us[j]? = some u->w.cell? (p.add j)=some u:=λj u hj=>hr j u hj
 have h1c:∀u∈us,u.oneCell'=true:=λu hm=>by rw [<-TI];exact iN.1 hu u hm
 have hu':P.underlying t=some (.slice e):=(T _ _ _ ht).under;obtain ⟨v',w',hrun,h1,h2,h3⟩:=run_append_own (P:=P) w b t ty e i v0 sz i.bytes hu' z1 z2 hs' rfl hzs hsz' v k cs hown p m cap us hul hnews h1c (by unfold maxLen;omega) hbytes hb;have hwhere:∃g cap',v' = .slice (some ⟨g,0,none⟩) (k+m) cap'/\(v.ownBlock=some g\/w.heap.size<=g):=by
  subst hs';rcases hown.2 with ⟨rfl,rfl⟩|⟨g,cap',cur,rfl,hbg,hg,hnc,hcm,hcs,htake⟩
  . by_cases hm:m=0
    . omega
    . have hr':=run_append_nil (P:=P) w t ty e i v0 hu' z1 z2 p m cap us hul hnews (by omega) (by omega) (by have hb:=hbytes;simp only [iY] at hb;omega);rw [hr'] at hrun;simp only [lf] at hrun;exact ⟨w.heap.size,_,by rw [<-hrun.1,iY],gQ (ip _)⟩
  . by_cases hroom:k+m<=cap'
    . have hfit:k*i.size+us.length<=cur.size:=by rw [hul,hcs,<-jQ];exact jD _ hroom
      have hr':=run_append_room (P:=P) w t ty e i hu' z1 g k cap' cur hg p m cap us hul hnews h1c hroom hfit;rw [hr'] at hrun;simp only [lf] at hrun;exact ⟨g,_,hrun.1.symm,gP rfl⟩
    . have holds:∀j u,cs[j]? = some u->w.cell? ((⟨g,0,none⟩:Addr).add j)=some u:=hown.cells (g:=g) rfl;have hr':=run_append_grow (P:=P) w t ty e i v0 hu' z1 z2 ⟨g,0,none⟩ k cap' cs hown.1 holds p m cap us hul hnews (by omega) (by omega) (growslice_fits (by omega) hbytes);rw [hr'] at hrun;simp only [lf] at hrun;exact ⟨w.heap.size,_,hrun.1.symm,gQ (ip _)⟩
 have e1:(execOp a.eval ⟨dst,.call ⟨.builtin .append,#[x,z],#[t,t]⟩,ty,pos,after,g⟩).run P w = .ok (.value v') w':=by
  simp only [execOp,resolve,invoke,builtin,ij,iC,jq,ln,iR,ky,ha.ev hx,ha.ev hy,hrun]
 unfold jy;rw [e1];exact hn v' w' ⟨h1,⟨h2.os,h2.tape,h2.output,h2.size,λj hj hs=>h2.block j hj (λe=>hs e.symm)⟩,hwhere⟩
end app
def Bi (es:List MapEntry) (kvs:List (lB×Value)):Prop:=es.map (λe=>(e.key,e.val))=kvs.map (λp=>(str p.1,p.2))
def MapIs (w:wD) (r:Nat) (kvs:List (lB×Value)):Prop:= ∃es clock,w.heap[r]? = some (.map es clock)/\Bi es.toList kvs
def Ez:List (lB×Value)->lB->Option Value
 | [],_=>none
 | p::r,k=>if k=p.1 then some p.2 else Ez r k
def Gm:List (lB×Value)->lB->Value->List (lB×Value)
 | [],k,v=>[(k,v)]
 | p::r,k,v=>if k=p.1 then (p.1,v)::r else p::Gm r k v
def MapIs.lt {kvs:List (lB×Value)} (h:MapIs w r kvs):r<w.heap.size:=by
 obtain ⟨es,c,h,-⟩:=h;rcases it r w.heap.size with G|G
 . exact G
 . rw [iQ G] at h;cases h
def MapIs.ext {kvs:List (lB×Value)} (h:MapIs w r kvs) (x:Ext w w'):MapIs w' r kvs:=by
 have G:=h.lt;obtain ⟨es,c,h,e⟩:=h;exact ⟨es,c,by rw [x.block G];exact h,e⟩
def MapIs.fr {S:nP} {kvs:List (lB×Value)} (h:MapIs w r kvs) (x:Fr S w w') (G:¬S r):MapIs w' r kvs:=by
 have M:=h.lt;obtain ⟨es,c,h,e⟩:=h;exact ⟨es,c,by rw [x.block r M G];exact h,e⟩
def O1 (b:ByteArray) (x:lB):(b==(⟨x.toArray⟩:ByteArray))=(b.data.toList==x):=by
 show (b.data==x.toArray)=_;rw [jH];simp;constructor
 . intro h;rw [h]
 . intro h;rw [<-h]
def K9:∀(es:List MapEntry) (kvs:List (lB×Value)) (k:lB) (i:Nat),Bi es kvs ->
 ∃o,Instr.findNow .string (str k) es i=some o/\(o.map (·.2)=Ez kvs k) /\ ∀j v,o=some (j,v)->i<=j /\ ∃e,es[j-i]? = some e/\e.key=str k /\ ∀M,Bi (es.set (j-i) { e with key:=str k,val:=M }) (Gm kvs k M)
 | [],[],k,i,_=>⟨none,rfl,rfl,λ_ _ h=>by cases h⟩
 | [],_::_,_,_,h=>by simp [Bi] at h
 | _::_,[],_,_,h=>by simp [Bi] at h
 | e::es,(O,M)::kvs,k,i,h=>by
  simp only [Bi,iR,iT,kE] at h;obtain ⟨⟨N,U⟩,V⟩:=h;have X:Instr.sameNow .string (str k) e.key=some (decide (k=O)):=by
   rw [N];simp only [Instr.sameNow];rw [O1];simp [FT]
  by_cases G:k=O
  . subst G;refine ⟨some (i,e.val),by simp [Instr.findNow,X],by simp [Ez,U],λj v h=>?_⟩;simp only [gU,kE] at h;obtain ⟨rfl,-⟩:=h;refine ⟨ip _,e,by simp,N,λM=>?_⟩;simp [Bi,Gm,V]
  . obtain ⟨o,Z,h2,h3⟩:=K9 es kvs k (i+1) V;refine ⟨o,by simp [Instr.findNow,X,G,Z],by simp [Ez,G,h2],λj v h=>?_⟩;obtain ⟨g1,e',g2,g3,g4⟩:=h3 j v h;have Y:j-i=(j-(i+1))+1:=by omega
    refine ⟨by omega,e',by rw [Y];simpa using g2,g3,λM=>?_⟩;rw [Y];have:=g4 M;simp only [Bi] at this ⊢;simp [Gm,G,N,U,this]
section maps
variable {tab:Tab} {zt:Ey}
def run_findKey (N:P.underlying t=some .string) {es:List MapEntry} {kvs:List (lB×Value)} {k:lB} (h:Bi es kvs) (w:wD) :
 ∃o,(Instr.findKey t (str k) es).run P w = .ok o w/\(o.map (·.2)=Ez kvs k) /\ ∀j v,o=some (j,v) -> ∃e,es[j]? = some e/\e.key=str k /\ ∀M,Bi (es.set j { e with key:=str k,val:=M }) (Gm kvs k M):=by
 obtain ⟨o,O,U,V⟩:=K9 es kvs k 0 h;refine ⟨o,by simp [Instr.findKey,AD N,gY,O],U,λj v X=>?_⟩;obtain ⟨-,e,Y,Z,g4⟩:=V j v X;exact ⟨e,by simpa using Y,Z,by simpa using g4⟩
def run_checkKey {h:Nat} (G:P.underlying h=some .string) (b:Bool) (k:lB) (w:wD):(Instr.checkKey b 10000 h (str k)).run P w = .ok () w:=by
 rw [show (10000:Nat)=9999+1 from rfl,Instr.checkKey];simp [AD G,gY]
def CI (o:Option Value) (z:Value) (c:Bool):Value:=if c then .tuple #[o.getD z,.bool o.isSome] else o.getD z
def L1 {y:Operand} {N:Nat} {c:Bool} {k:lB} {z:Value} {kvs:List (lB×Value)} (T:TabOk P tab) (Z:AB tab t=some (.map sz e,b)) (O:AB tab sz=some (.str,N)) (U:((P.info? e).bind (·.zero))=some z)
 (hx:ev l x=some (.map (some r))) (hy:ev l y=some (str k)) (hm:∀w,S w->MapIs w r kvs):Br P n l S (.lookup t x y c) ty (CI (Ez kvs k) z c):=by
 unfold Br;intro a w aa pos after g X hS;have hu:P.underlying t=some (.map sz e):=(T _ _ _ Z).under;have Y:P.underlying sz=some .string:=(T _ _ _ O).under;obtain ⟨es,h,hh,he⟩:=hm w hS;obtain ⟨i0,z1,z2⟩:∃i,P.info? e=some i/\i.zero=some z:=by
  cases hi:P.info? e with
  | none=>rw [hi] at U;cases U
  | some i=>exact ⟨i,rfl,by simpa [hi] using U⟩
 obtain ⟨o,h1,h2,-⟩:=run_findKey Y (k:=k) he w;have V:(zeroValue e).run P w = .ok z w:=by simp [zeroValue,typeInfo,program,jP,z1,z2,bind,Sem.bind,pure]
 have e1:(Instr.lookup t (.map (some r)) (str k) c).run P w = .ok (CI (Ez kvs k) z c) w:=by
  have hg:(getObj r).run P w = .ok (.map es h) w:=by simp [getObj,jP,hh]
  simp only [Instr.lookup,ij,AD hu,gY,hg,iC,run_checkKey Y,h1];rw [<-h2];cases o with
  | none=>simp [V,CI]
  | some q=>simp [CI]
 simp only [execOp,X.ev hx,X.ev hy,ij,e1,gY,iC]
def I3 (w:wD) (r:Nat) (o G:Obj) (h:w.heap[r]? = some o):({ w with heap:=w.heap.setIfInBounds r G }:wD).heap[r]? = some G/\Fr (· = r) w { w with heap:=w.heap.setIfInBounds r G }:=by
 have M:r<w.heap.size:=(Array.getElem?_eq_some_iff.1 h).1;refine ⟨by simp [M],rfl,rfl,rfl,by simp,λk O N=>?_⟩;exact Array.getElem?_setIfInBounds_ne (λe=>N e.symm)
def NJ {k:lB} {kvs:List (lB×Value)} (T:TabOk P tab) (ht:AB tab t=some (.map sz e,b)) (aa:AB tab sz=some (.str,t')) (hm:MapIs w r kvs) :
 ∃w1,(Instr.mapUpdate t (.map (some r)) (str k) v).run P w = .ok () w1/\MapIs w1 r (Gm kvs k v)/\Fr (· = r) w w1/\w1.heap.size=w.heap.size:=by
 have hu:P.underlying t=some (.map sz e):=(T _ _ _ ht).under;have hk:P.underlying sz=some .string:=(T _ _ _ aa).under;obtain ⟨es,G,V,he⟩:=hm;obtain ⟨o,h1,h2,h3⟩:=run_findKey hk (k:=k) he w;have hg:(getObj r).run P w = .ok (.map es G) w:=by simp [getObj,jP,V]
 have M:∀ob,(setObj r ob).run P w = .ok () { w with heap:=w.heap.setIfInBounds r ob }:=λob=>by simp [setObj,jP,V]
 cases o with
 | none=>
  have ab:Ez kvs k=none:=by simpa using h2.symm
  obtain ⟨p1,p2⟩:=I3 w r _ (.map (es.push { key:=str k,val:=v,born:=G }) (G+1)) V;refine ⟨_,?_,⟨_,_,p1,?_⟩,p2,by simp⟩
  . simp only [Instr.mapUpdate,ij,AD hu,gY,hg,run_checkKey hk,h1,M]
  . have key:∀(es:List MapEntry) (kvs:List (lB×Value)),Bi es kvs->Ez kvs k=none->Bi (es++[{ key:=str k,val:=v,born:=G }]) (Gm kvs k v):=by
     intro es kvs
     induction kvs generalizing es with
     | nil=>intro h _;cases es with|nil=>simp [Bi,Gm]|cons _ _=>simp [Bi] at h
     | cons p r ih=>
      intro h X;cases es with
      | nil=>simp [Bi] at h
      | cons e es=>
       simp only [Ez] at X;split at X
       . cases X
       . rename_i ac;simp only [Bi,iR,iT] at h;have:=ih es h.2 X;simp only [Bi] at this ⊢;simp [Gm,ac,h.1,this]
    simpa using key es.toList kvs he ab
 | some q=>
  obtain ⟨j,u⟩:=q;obtain ⟨en,g1,g2,g3⟩:=h3 j u rfl;have N:(Instr.keyThatStays (((es[j]?).map (·.key)).getD (str k)) (str k)).run P w = .ok (str k) w:=by
   have:es[j]? = some en:=by simpa using g1
   rw [this];have hb:((⟨k.toArray⟩:ByteArray)==⟨k.toArray⟩)=true:=by rw [O1];simp
   simp [Instr.keyThatStays,g2,Instr.sameBits,hb]
  obtain ⟨p1,p2⟩:=I3 w r _ (.map (es.modify j λe=>{ e with key:=str k,val:=v }) G) V;refine ⟨_,?_,⟨_,_,p1,?_⟩,p2,by simp⟩
  . simp only [Instr.mapUpdate,ij,AD hu,gY,hg,run_checkKey hk,h1,N,M]
  . have:=g3 v;have e:(es.modify j λe=>{ e with key:=str k,val:=v }).toList=es.toList.set j { en with key:=str k,val:=v }:=by
     apply jG;intro i;have gj:es[j]? = some en:=by simpa using g1
     rw [lz,jN,List.getElem?_set];by_cases O:j=i
     . subst O;have ad:j<es.size:=(Array.getElem?_eq_some_iff.1 gj).1;rw [AH rfl,AH rfl,gj];simp [ad]
     . simp [O]
    rw [e];exact this
end maps
section strs
variable {tab:Tab} {y:Operand} {a:lB}
def Hg {k h:IntKind} {i m:Int} (T:TabOk P tab) (O:AB tab t=some (.int k,sz)) (M:AB tab t'=some (.int h,B)) (V:ev l x=some (.int U i)) (X:h.wrap i=m):Br P n l S (.convert t t' x) ty (.int h m):=by
 unfold Br;intro b w Y pos after g Z _;have hu:P.underlying t=some (.int k):=(T _ _ _ O).under;have N:P.underlying t'=some (.int h):=(T _ _ _ M).under;subst X;simp [execOp,Z.ev V,convert,AD hu,AD N,gY,Conv.intToInt]
end strs
def Ext.ext {a b c:wD} (h:Ext a b) (x:Ext b c):Ext a c:=h.trans x
def Fr.ext {S:nP} {a b c:wD} (h:Fr S a b) (x:Ext b c):Fr S a c:=h.trans (.of_ext x)
def Ext.fr {S:nP} {a b c:wD} (h:Ext a b) (x:Fr S b c) (M:∀k,S k->a.heap.size<=k):Ext a c:=
 ⟨x.os.trans (Below.os h),x.tape.trans (lT h),x.output.trans (lM h),jg h.size x.size,
  λk G=>(x.block k (js G h.size) (λN=>by have:=M k N;omega)).trans (h.block G)⟩
def Fr.fr {S:nP} {a b c:wD} (h:Fr T a b) (x:Fr S b c) (N:∀k,S k->T k\/a.heap.size<=k):Fr T a c:=
 ⟨x.os.trans h.os,x.tape.trans h.tape,x.output.trans h.output,jg h.size x.size,
  λk G M=>(x.block k (js G h.size) (λO=>by rcases N k O with h|h;exact M h;omega)).trans (h.block k G M)⟩
def TB.fr {S:nP} {T:TypeId} (h:TB w b vs T) (x:Fr S w w') (G:¬S b):TB w' b vs T:=(x.block b h.blk.lt G).trans h
def Fr.weaken {S:nP} (h:Fr S w w') (k:∀b,S b->T b):Fr T w w':=⟨h.os,h.tape,h.output,h.size,λb G M=>h.block b G (λN=>M (k b N))⟩
section code
variable {x y:Code}
def BS [Decidable p] [Decidable (¬p)] (G:ev l c=some (.bool (decide (¬p)))) (M:¬p->CW P n x Q l w) (N:p->CW P n y Q l w):CW P n (.cond c x y) Q l w:=
 Ay G M (λh=>N (Decidable.not_not.1 h))
def JG (h:ev l c=some (.bool (!q))) (G:q=false->CW P n x Q l w) (M:q=true->CW P n y Q l w):CW P n (.cond c x y) Q l w:=
 FR h (λe=>G (by simpa using e)) (λe=>M (by simpa using e))
variable {ops:Array Oper} {rest:List Oper} {tab:Tab} {d:Nat} {pos:String} {after:Array Edge}
def B0 {o:Oper} {g:Nat×Bool} [Decidable p] (_:o.guard=some g) (_:BL ops g.1=some t) (_:look l t=some (.bool (decide p))) (G:p->LW P n ops Q (o::rest) l w) (M:¬p->LW P n ops Q (o::rest) l w):LW P n ops Q (o::rest) l w:=by
 by_cases h:p
 . exact G h
 . exact M h
def O2 {o:Oper} {g:Nat×Bool} {b:Bool} (_:o.guard=some g) (_:BL ops g.1=some t) (_:look l t=some (.bool b)) (G:b=true->LW P n ops Q (o::rest) l w) (M:b=false->LW P n ops Q (o::rest) l w):LW P n ops Q (o::rest) l w:=by
 cases h:b
 . exact M h
 . exact G h
def dO {a:Operand} (T:TabOk P tab) (h:AB tab t=some (s,sz)) (G:s.agg=false) (M:ev l a=some (.pointer (some ⟨b,o,none⟩)))
 (N:Blk w b vs) (O:vs[o]? = some v) (U:iE d n=true) (k:LW P n ops Q rest ((d,v)::l) w):LW P n ops Q (⟨some d,.load t a,ty,pos,after,none⟩::rest) l w:=
 De (Ap T h G M (λX V=>by subst V;exact N.cell O)) U k
def Do {a:Operand} (T:TabOk P tab) (h:AB tab t=some (s,sz)) (G:s.agg=false) (M:ev l a=some (.pointer (some ⟨b,o+i,none⟩)))
 (N:Row w ⟨b,o,none⟩ vs) (O:vs[i]? = some v) (U:iE d n=true) (k:LW P n ops Q rest ((d,v)::l) w):LW P n ops Q (⟨some d,.load t a,ty,pos,after,none⟩::rest) l w:=
 De (Ap T h G M (λX V=>by subst V;exact N.at O)) U k
def Dx {a:Operand} (T:TabOk P tab) (h:AB tab t=some (s,sz)) (G:s.agg=false) (M:ev l a=some (.pointer (some ⟨b,o,none⟩)))
 (N:Row w ⟨b,o,none⟩ vs) (O:vs[0]? = some v) (U:iE d n=true) (k:LW P n ops Q rest ((d,v)::l) w):LW P n ops Q (⟨some d,.load t a,ty,pos,after,none⟩::rest) l w:=
 De (Ap T h G M (λX V=>by subst V;exact N.at0 O)) U k
def Sm {a:Operand} (T:TabOk P tab) (h:AB tab t=some (s,sz)) (G:s.agg=true) (M:ev l a=some (.pointer (some ⟨b,o,none⟩)))
 (N:Blk w b vs) (O:jr (o+sz) vs.length=true) (U:iE d n=true) (k:LW P n ops Q rest ((d,.agg ((vs.drop o).take sz).toArray)::l) w):LW P n ops Q (⟨some d,.load t a,ty,pos,after,none⟩::rest) l w:=
 De (EZ T h G M (λX V=>by subst V;exact N) O) U k
def Sn {a:Operand} (T:TabOk P tab) (h:AB tab t=some (s,sz)) (G:s.agg=true) (M:ev l a=some (.pointer (some ⟨b,o+i,none⟩)))
 (N:Row w ⟨b,o,none⟩ vs) (O:jr (i+sz) vs.length=true) (U:iE d n=true) (k:LW P n ops Q rest ((d,.agg ((vs.drop i).take sz).toArray)::l) w):LW P n ops Q (⟨some d,.load t a,ty,pos,after,none⟩::rest) l w:=
 De (IN T h G M (λX V=>by subst V;exact N) O) U k
def aM {a:Operand} (T:TabOk P tab) (h:AB tab t=some (s,sz)) (G:s.agg=true) (M:ev l a=some (.pointer (some ⟨b,o,none⟩)))
 (N:Row w ⟨b,o,none⟩ vs) (O:vs.length=sz) (U:iE d n=true) (k:LW P n ops Q rest ((d,.agg vs.toArray)::l) w):LW P n ops Q (⟨some d,.load t a,ty,pos,after,none⟩::rest) l w:=
 De (BC T h G M (λX V=>by subst V;exact N) O) U k
end code
def JH (ops:Array Oper) (j i:Nat):Bool:=match ops[j]? with
 | none=>false
 | some o=>o.after.any λe=>jh .any e&&jv e.on i
def DC (ops:Array Oper) (listed:Array Bool):Prop:= ∀k o,ops[k]? = some o->listed.getD k false=true -> ∀e∈o.after,jh .any e=true->listed.getD e.on false=true
def EC (h:JH a j i=true):∃o e,a[j]? = some o/\e∈o.after/\jh .any e=true/\e.on=i:=by
 unfold JH at h;split at h
 . cases h
 . rename_i o M;obtain ⟨e,N,G⟩:=Array.any_eq_true'.1 h;simp only [gR] at G;exact ⟨o,e,M,N,G.1,iM G.2⟩
def Ej (ops:Array Oper) (K i:Nat):Prop:= ∀(listed:Array Bool) (j:Nat) (o:Oper),DC ops listed->K<=j->ops[j]? = some o->(∀e∈o.after,jh .any e=true->listed.getD e.on false=true)->listed.getD i false=true
def I4 (ops:Array Oper) (K:Nat):Bool:=((jj K).all λi=>(List.range' (i+1) (K-i)).any λj=>JH ops j i)&&((List.range' (K+1) (ops.size-(K+1))).all λj=>(List.range' K (j-K)).any λi=>JH ops j i)
def DT {K:Nat} (h:I4 a K=true) (hK:K<a.size):∀i,i<K->Ej a K i:=by
 simp only [I4,gR,iN,kp,ke,kK] at h;obtain ⟨h1,h2⟩:=h;intro i hi M j o Z hj X G;have aa:∀m j o,j<=K+m->K<=j->a[j]? = some o->(∀e∈o.after,jh .any e=true->M.getD e.on false=true) -> ∀oK,a[K]? = some oK -> ∀e∈oK.after,jh .any e=true->M.getD e.on false=true:=by
  intro m
  induction m with
  | zero=>
   intro j o hm hj X G oK N;have:j=K:=by omega
   subst this;rw [X] at N;obtain rfl:=gZ N;exact G
  | succ m ih=>
   intro j o hm hj X G oK N;by_cases Y:j=K
   . subst Y;rw [X] at N;obtain rfl:=gZ N;exact G
   . have ad:j<a.size:=(Array.getElem?_eq_some_iff.1 X).1;obtain ⟨i',ab,hw⟩:=h2 j (by omega);obtain ⟨oj,e,O,he,hb,U⟩:=EC hw;rw [X] at O;obtain rfl:=gZ O;have hl:=G e he hb;rw [U] at hl;have V:i'<a.size:=by omega
     exact ih i' a[i'] (by omega) ab.1 (jk V) (Z i' _ (jk V) hl) oK N
 have ac:=aa (j-K) j o (by omega) hj X G a[K] (jk hK);have key:∀d i,K-i<=d->i<K->M.getD i false=true:=by
  intro d
  induction d with
  | zero=>intro i h hi;omega
  | succ d ih=>
   intro i hd hi;obtain ⟨j',ae,hw⟩:=h1 i hi;obtain ⟨oj,e,O,he,hb,U⟩:=EC hw;by_cases Y:j'=K
   . subst Y;rw [jk hK] at O;obtain rfl:=gZ O;have:=ac e he hb;rwa [U] at this
   . have hl:=ih j' (by omega) (by omega);have:=Z j' oj O hl e he hb;rwa [U] at this
 exact key (K-i) i (ip _) hi
section
variable {ops:Array Oper} {K:Nat}
def Hh (P:Program) (ops:Array Oper) (Q:Exit->Act->wD->Prop) (S:wD->Prop) (K:Nat):Nat->Array Bool->Act->wD->Prop
 | 0,listed,a,w=>iH .any ops listed=[]/\Q .normal a w
 | fuel+1,listed,a,w=>
  (iH .any ops listed=[]->Q .normal a w) /\
  ∀i∈iH .any ops listed,wpOp P ops Q i (λa' w'=>(i<K->S w')/\Hh P ops Q S K fuel (listed.setIfInBounds i true) a' w') a w
def I5:∀(G:Nat) (M:Array Bool) (a:Act) (w:wD),Hh P ops Q S K G M a w->wpAny P .any ops Q G M a w
 | 0,_,_,_,h=>h
 | G+1,_,_,_,h=>⟨h.1,λi N=>wpOp_mono (λO w' U=>I5 G _ O w' U.2) (h.2 i N)⟩
def DC.set {G:Array Bool} (h:DC ops G) (hj:j∈iH .any ops G):DC ops (G.setIfInBounds j true):=by
 obtain ⟨Y,oj,U,M⟩:=mem_ready.1 hj;intro k o V Z e he hb;have key:G.getD e.on false=true:=by
  by_cases N:j=k
  . subst N;rw [U] at V;obtain rfl:=gZ V;exact M e he hb
  . refine h k o V ?_ e he hb;rw [getD_set_ne false N] at Z;exact Z
 by_cases O:j=e.on
 . subst O;rcases it e.on G.size with X|X
   . simp [X]
   . simp [iQ X] at key
 . rw [getD_set_ne false O];exact key
def O3 (hi:ops[i]? = some oi) (hK:i<K) (ag:Ej ops K i) (Y:∀(j:Nat) (o:Oper) cs b,ops[j]? = some o->o.op≠.select cs b)
 (hQ:∀c a w,Q (.panic c) (a.put oi.dst v) w->Q (.panic c) a w) :
 ∀(M:Nat) (G:Array Bool) (a:Act) (w:wD),DC ops G ->
  (∀j Z,ops[j]? = some Z->j≠i->G.getD j true=false->(∀e∈Z.after,jh .any e=true->e.on≠i)->oi.apart ops Z=true) ->
  i∈iH .any ops G->YieldsIf P ops S oi v a->S w ->
  Hh P ops Q S K M (G.setIfInBounds i true) (a.put oi.dst v) w->Hh P ops Q S K (M+1) G a w:=by
 intro M
 induction M with
 | zero=>
  intro G a w _ _ hr hy hS H;refine ⟨λh=>(by rw [h] at hr;cases hr),λj hj=>?_⟩;by_cases N:j=i
  . subst N;exact hy.wpOp hi hS ⟨λ_=>hS,H⟩
  . have:=ready_mono hj N;rw [H.1] at this;cases this
 | succ M ih=>
  intro G a w ac O hr hy hS H;refine ⟨λh=>(by rw [h] at hr;cases hr),λj hj=>?_⟩;by_cases N:j=i
  . subst N;exact hy.wpOp hi hS ⟨λ_=>hS,H⟩
  . have h1:=H.2 j (ready_mono hj N);obtain ⟨aa,Z,V,ab⟩:=mem_ready.1 hj;have U:¬G.getD i false=true:=λhc=>by
     have h0:=(mem_ready.1 hr).1;rcases it i G.size with h'|h'
     . simp [h'] at h0 hc;rw [h0] at hc;cases hc
     . simp [iQ h'] at hc
    have ad:j<K:=by
     rcases it j K with h|h
     . exact h
     . exact absurd (ag G j Z ac h V ab) U
    have ae:∀e∈Z.after,jh .any e=true->e.on≠i:=λe he hb ah=>U (ah▸ab e he hb)
    have h2:=wpOp_putIf V (O j Z V N aa ae) (λcs b=>Y i oi cs b hi) (λcs b=>Y j Z cs b V) hQ hy h1;have X:∀k ok,ops[k]? = some ok->k≠i->(G.setIfInBounds j true).getD k true=false ->
     (∀e∈ok.after,jh .any e=true->e.on≠i)->oi.apart ops ok=true:=λk ok hk ai U aj=>by
     refine O k ok hk ai ?_ aj;by_cases af:j=k
     . subst af;exact aa
     . rw [getD_set_ne true af] at U;exact U
    refine wpOp_mono (λa' w' h3=>⟨λ_=>h3.2.1 ad,ih (G.setIfInBounds j true) a' w' (ac.set hj) X (ready_mono hr (lw N)) h3.1 (h3.2.1 ad) ?_⟩) h2;rw [kF _ _ N];exact h3.2.2
end
inductive Sc where
 | done
 | pure (i:Nat) (r:Sc)
 | fork (i:Nat) (x r:Sc)
 | none
 | tail
def Sc.alts:Sc->List Nat
 | .fork i _ r=>i::r.alts
 | _=>[]
def Fi (ops:Array Oper):Nat->Nat->Array Bool->Bool
 | 0,_,listed=>(iH .any ops listed).isEmpty
 | f+1,k,listed=>(iH .any ops listed==[k])&&Fi ops f (k+1) (listed.setIfInBounds k true)
def Sc.ok (ops:Array Oper) (K:Nat):Bool->Sc->Nat->Array Bool->Bool
 | true,.done,_,listed=>(iH .any ops listed).isEmpty
 | true,.pure i r,f+1,listed=>iE i K&&(iH .any ops listed).contains i&&Region.free .any ops listed i&&Sc.ok ops K true r f (listed.setIfInBounds i true)
 | true,.fork i x r,f+1,listed=>(iH .any ops listed).all (λj=>(i::r.alts).contains j)&&(iH .any ops listed).contains i&&Sc.ok ops K true x f (listed.setIfInBounds i true)&&Sc.ok ops K false r (f+1) listed
 | true,.tail,f,listed=>jv (f+K) ops.size&&Fi ops f K listed
 | false,.fork i x r,f+1,listed=>(iH .any ops listed).contains i&&Sc.ok ops K true x f (listed.setIfInBounds i true)&&Sc.ok ops K false r (f+1) listed
 | false,.none,_,_=>true
 | _,_,_,_=>false
def HT (P:Program) (ops:Array Oper) (Q:Exit->Act->wD->Prop) (S:wD->Prop) (K:Nat):Sc->Act->wD->Prop
 | .done,a,w=>Q .normal a w
 | .pure i r,a,w=> ∃o v,ops.toList[i]? = some o/\YieldsIf P ops S o v a/\HT P ops Q S K r (a.put o.dst v) w
 | .fork i x r,a,w=>wpOp P ops Q i (λa' w'=>S w'/\HT P ops Q S K x a' w') a w/\HT P ops Q S K r a w
 | .none,_,_=>True
 | .tail,a,w=>wpList P ops Q (ops.toList.drop K) a w
def KA {P:Program} {ops:Array Oper} {Q:Exit->Act->wD->Prop} {S:wD->Prop} {K:Nat}:∀(f k:Nat) (G:Array Bool) (a:Act) (w:wD),K<=k->f+k=ops.size->Fi ops f k G=true->wpList P ops Q (ops.toList.drop k) a w->Hh P ops Q S K f G a w
 | 0,k,G,a,w,V,X,M,h=>by
  have:ops.toList.drop k=[]:=jd (by simp;omega);rw [this] at h;exact ⟨by simpa [Fi] using M,h⟩
 | f+1,k,G,a,w,V,X,M,h=>by
  simp only [Fi,gR,beq_iff_eq] at M;have N:k<ops.toList.length:=by simp;omega
  rw [iB N] at h;refine ⟨λe=>absurd (M.1.symm.trans e) (by simp),λi O=>?_⟩;rw [M.1] at O;simp only [iu] at O;subst O;have Y:ops[i]? = some ops.toList[i]:=by simp
  unfold wpList at h;unfold wpOp;rw [Y];simp only;split
  . rename_i U;rw [AH U] at h;rcases h with h|h
    . exact gP (Oper.wp_mono (λZ w' h'=>⟨λN=>by omega,KA f (i+1) _ Z w' (by omega) (by omega) M.2 h'⟩) h)
    . exact gQ h
  . rename_i U;rw [At U] at h;exact ⟨λN=>by omega,KA f (i+1) _ _ w (by omega) (by omega) M.2 h⟩
def HT.any {P:Program} {ops:Array Oper} {Q:Exit->Act->wD->Prop} {S:wD->Prop} {K:Nat} (hs:Region.noSelect ops=true) (O:∀i,i<K->Ej ops K i) (hQ:Df Q) :
 ∀(s:Sc) (f:Nat) (G:Array Bool) (a:Act) (w:wD),DC ops G->S w->HT P ops Q S K s a w ->
  (Sc.ok ops K true s f G=true->Hh P ops Q S K f G a w) /\
  (Sc.ok ops K false s f G=true -> ∀i∈s.alts,∀f',f=f'+1->wpOp P ops Q i (λZ w'=>(i<K->S w')/\Hh P ops Q S K f' (G.setIfInBounds i true) Z w') a w)
 | .done,f,G,a,w,N,U,h=>by
  refine ⟨λM=>?_,λM=>by simp [Sc.ok] at M⟩;have X:iH .any ops G=[]:=by simpa [Sc.ok] using M
  cases f with
  | zero=>exact ⟨X,h⟩
  | succ f=>exact ⟨λ_=>h,by rw [X];simp⟩
 | .none,f,G,a,w,N,U,h=>⟨λM=>by simp [Sc.ok] at M,λM=>by simp [Sc.alts]⟩
 | .tail,f,G,a,w,N,U,h=>⟨λM=>by
  simp only [Sc.ok,gR] at M;exact KA f K G a w (ip _) (iM M.1) M.2 h,λM=>by simp [Sc.ok] at M⟩
 | .pure i r,0,G,a,w,N,U,h=>⟨λM=>by simp [Sc.ok] at M,λM=>by simp [Sc.ok] at M⟩
 | .pure i r,f+1,G,a,w,N,U,h=>⟨λM=>by
  simp only [Sc.ok,gR] at M;obtain ⟨o,v,ho,hy,X⟩:=h;have hi:ops[i]? = some o:=by simpa using ho
  have V:i∈iH .any ops G:=by simpa using M.1.1.2
  exact O3 hi (iA M.1.1.1) (O i (iA M.1.1.1)) (jV hs) (λc a w=>hQ o.dst v c a w) f G a w N (kD hi M.1.2) V hy U
   ((HT.any hs O hQ r f _ _ w (N.set V) U X).1 M.2),λM=>by simp [Sc.ok] at M⟩
 | .fork i x r,0,G,a,w,N,U,h=>⟨λM=>by simp [Sc.ok] at M,λM=>by simp [Sc.ok] at M⟩
 | .fork i x r,f+1,G,a,w,N,U,h=>by
  have key:i∈iH .any ops G->Sc.ok ops K true x f (G.setIfInBounds i true)=true->wpOp P ops Q i (λZ w'=>(i<K->S w')/\Hh P ops Q S K f (G.setIfInBounds i true) Z w') a w:=λV M=>
   wpOp_mono (λZ w' h'=>⟨λ_=>h'.1,(HT.any hs O hQ x f _ Z w' (N.set V) h'.1 h'.2).1 M⟩) h.1
  have X:=HT.any hs O hQ r (f+1) G a w N U h.2;refine ⟨λM=>?_,λM j Y f' hf=>?_⟩
  . simp only [Sc.ok,gR] at M;obtain ⟨⟨⟨h1,h4⟩,h2⟩,h3⟩:=M;refine ⟨λe=>by rw [e] at h4;simp at h4,λj Y=>?_⟩;have:=iN.1 h1 j Y;simp only [List.contains_eq_mem,io,decide_eq_true_eq] at this;rcases this with rfl|aa
    . exact key Y h2
    . exact X.2 h3 j aa f rfl
  . simp only [Sc.ok,gR] at M;obtain rfl:f=f':=by omega
    simp only [Sc.alts,io] at Y;rcases Y with rfl|Y
    . exact key (by simpa using M.1.1) M.1.2
    . exact X.2 M.2 j Y f rfl
def L4 {α:Type}:Nat->List α->Option (List α)
 | 0,l=>some l
 | _+1,[]=>some []
 | k+1,_::l=>L4 k l
def GJ {α:Type}:∀ {k:Nat} {l m:List α},L4 k l=some m->l.drop k=m
 | 0,l,m,h=>by simpa [L4] using h
 | _+1,[],m,h=>by simpa [L4] using h
 | k+1,_::l,m,h=>by simpa using GJ (k:=k) (l:=l) h
def G6 [Decidable p] (h:p):(decide p==true)=true:=by simp [h]
def IP [Decidable p] (h:¬p):(decide p==true)=false:=by simp [h]
def NV [Decidable p] (h:p):(decide p==false)=false:=by simp [h]
def Fj [Decidable p] (h:¬p):(decide p==false)=true:=by simp [h]
def Hi {b:Bool} (h:b=true):(b==true)=true:=by simp [h]
def Hj {b:Bool} (h:b=false):(b==true)=false:=by simp [h]
def NW {b:Bool} (h:b=true):(b==false)=false:=by simp [h]
def NX {b:Bool} (h:b=false):(b==false)=true:=by simp [h]
def TW (P:Program) (n:Nat) (ops:Array Oper) (Q:Exit->Act->wD->Prop) (S:wD->Prop) (K:Nat) (s:Sc) (l:Sl) (w:wD):Prop:= ∀a,Env n l a->HT P ops Q S K s a w
section draws
variable {P:Program} {n:Nat} {ops:Array Oper} {Q:Exit->Act->wD->Prop} {S:wD->Prop} {K:Nat} {l:Sl} {w:wD}
 {d i:Nat} {ty:TypeId} {pos:String} {after:Array Edge} {r x:Sc}
def Aq (S:wD->Prop) (K:Nat) (s:Sc) (hm:P.follows .mixedOrders=true) (N:(Region.noSelect G.toArray&&(jr G.length K||I4 G.toArray K)&&Sc.ok G.toArray K true s G.length (jt G.length false))=true) (hQ:Df Q)
 (h:∀w1,Ext w w1->w1.heap=w.heap->S w1/\TW P n G.toArray Q S K s l w1):CW P n (.region t G.toArray true) Q l w:=by
 unfold CW;intro a ha;simp only [gR] at N;obtain ⟨h1,h2⟩:=h w.drew (Ext.refl w).drew rfl;have U:∀i,i<K->Ej G.toArray K i:=by
  by_cases Y:K<G.toArray.size
  . have M:=N.1.2;simp only [jc] at M;rcases M with M|M
    . have:=iA M;simp at Y;omega
    . exact DT M Y
  . intro i hi O j o _ hj ho _;have aa:j<G.toArray.size:=(Array.getElem?_eq_some_iff.1 ho).1;omega
 have V:DC G.toArray (jt G.length false):=λk o _ M=>by
  exfalso;rcases it k G.length with X|X
  . simp [X] at M
  . simp [iQ,X] at M
 refine wp_region_any hm (I5 (S:=S) (K:=K) _ _ _ _ ?_);have:=(HT.any N.1.1 U hQ s G.length (jt G.length false) a w.drew V h1 (h2 a ha)).1 N.2;simpa using this
def YL (h:QW n Q .normal l w):TW P n ops Q S K .done l w:=by unfold QW at h;exact h
def AC:TW P n ops Q S K .none l w:=λ_ _=>trivial
def Ar (M:L4 K ops.toList=some G) (h:LW P n ops Q G l w):TW P n ops Q S K .tail l w:=by
 unfold LW at h;intro a N;show wpList P ops Q (ops.toList.drop K) a w;rw [GJ M];exact h a N
def YM (M:ops.toList[i]? = some ⟨some d,op,ty,pos,after,none⟩) (h:Br P n l S op ty v) (N:iE d n=true) (k:TW P n ops Q S K r ((d,v)::l) w) :
 TW P n ops Q S K (.pure i r) l w:=by
 unfold Br at h;exact λa G=>⟨_,v,M,gP ⟨rfl,λw O=>h a w _ _ _ _ G O⟩,k _ (G.put N v)⟩
def Hk {h b:Bool} (N:ops.toList[i]? = some ⟨some d,op,ty,pos,after,some (j,h)⟩) (O:BL ops j=some t) (U:iE t n=true) (V:look l t=some (.bool b)) (X:(b==h)=true)
 (M:Br P n l S op ty v) (Y:iE d n=true) (k:TW P n ops Q S K r ((d,v)::l) w):TW P n ops Q S K (.pure i r) l w:=by
 unfold Br at M;exact λa G=>⟨_,v,N,gP ⟨by rw [Gl G rfl O U V,X],λw Z=>M a w _ _ _ _ G Z⟩,k _ (G.put Y v)⟩
def L5 {h b:Bool} (M:ops.toList[i]? = some ⟨some d,op,ty,pos,after,some (j,h)⟩) (N:BL ops j=some t) (O:iE t n=true) (U:look l t=some (.bool b)) (V:(b==h)=false)
 (X:iE d n=true) (k:TW P n ops Q S K r ((d,undef)::l) w):TW P n ops Q S K (.pure i r) l w:=λa G=>
 ⟨_,undef,M,gQ ⟨by rw [Gl G rfl N O U,V],rfl⟩,k _ (G.put X undef)⟩
def AE {G:Option Value->wD->Prop} (V:ops.toList[i]? = some ⟨some d,op,ty,pos,after,none⟩) (O:BE P n l op ty w G) (X:iE d n=true)
 (k:∀v w1,G (some v) w1->S w1/\TW P n ops Q S K x ((d,v)::l) w1) (Y:∀w1,¬G none w1) (Z:TW P n ops Q S K r l w):TW P n ops Q S K (.fork i x r) l w:=λa M=>by
 unfold BE at O;refine ⟨?_,Z a M⟩;have N:ops[i]? = some ⟨some d,op,ty,pos,after,none⟩:=by simpa using V
 unfold wpOp;rw [N];simp only;rw [AH (Bd rfl)];left;exact O a _ _ _ _ _ _ M (λv w1 U=>⟨(k v w1 U).1,(k v w1 U).2 _ (M.put X v)⟩) (λw1 h=>absurd h (Y w1))
def D2 {b:Bool} (X:ops.toList[i]? = some ⟨some d,op,ty,pos,after,some (j,q)⟩) (Y:BL ops j=some t) (Z:iE t n=true) (hb:look l t=some (.bool b)) (hw:(b==q)=true) (U:BE P n l op ty w N) (hd:iE d n=true)
 (k:∀v w1,N (some v) w1->S w1/\TW P n ops Q S K x ((d,v)::l) w1) (k0:∀w1,¬N none w1) (kr:TW P n ops Q S K r l w):TW P n ops Q S K (.fork i x r) l w:=λa M=>by
 unfold BE at U;refine ⟨?_,kr a M⟩;have O:ops[i]? = some ⟨some d,op,ty,pos,after,some (j,q)⟩:=by simpa using X
 unfold wpOp;rw [O];simp only;rw [AH (by rw [Gl M rfl Y Z hb,hw])];left;exact U a _ _ _ _ _ _ M (λv w1 V=>⟨(k v w1 V).1,(k v w1 V).2 _ (M.put hd v)⟩) (λw1 h=>absurd h (k0 w1))
def Ws (V:ops.toList[i]? = some ⟨none,op,ty,pos,after,none⟩) (O:BE P n l op ty w N)
 (k:∀v w1,N v w1->S w1/\TW P n ops Q S K x l w1) (X:TW P n ops Q S K r l w):TW P n ops Q S K (.fork i x r) l w:=λa G=>by
 unfold BE at O;refine ⟨?_,X a G⟩;have M:ops[i]? = some ⟨none,op,ty,pos,after,none⟩:=by simpa using V
 unfold wpOp;rw [M];simp only;rw [AH (Bd rfl)];left;exact O a _ _ _ _ _ _ G (λv w1 U=>⟨(k _ w1 U).1,(k _ w1 U).2 _ G⟩) (λw1 h=>⟨(k _ w1 h).1,(k _ w1 h).2 _ G⟩)
end draws
def TJ {tab:Tab} {ty:Nat} (h:fn.results = #[.cell t ty]) (T:TabOk P tab) (M:AB tab ty=some (s,sz)) (O:s.agg=true) (U:look l t=some (.pointer (some ⟨b,0,none⟩))) (V:Blk w b vs) (X:vs.length=sz)
 (Y:R (.returned (.agg vs.toArray)) w):QW n (bodyPost P fn R) .ret l w:=by
 unfold QW;intro a N;refine ⟨N.defers,.agg vs.toArray,?_,Y⟩;have e:(loadVar ty ⟨b,0,none⟩).run P w = .ok (.agg vs.toArray) w:=by
  simp only [ij,iC,gY,loadVar,CB (T _ _ _ M),O,if_true,Ca (T _ _ _ M)];rw [<-X,CD V.row]
 have G:=N.has t _ U;simp only [jf] at G;simp [results,h,G,e,asAddr]
attribute [irreducible] TW
section
variable {tab:Tab} {y:Operand}
def KB {f h:Nat} (T:TabOk P tab) (U:AB tab t=some (.struct M,sz)) (V:M[f]? = some (h,b)) (N:AB tab b=some (s,B)) (X:s.agg=false)
 (Y:ev l x=some (.agg vs.toArray)) (Z:vs[h]? = some v):Br P n l S (.field t x f) ty v:=by
 unfold Br;intro a w aa pos after g ha _;obtain ⟨gs,h1,-,h2⟩:=(T _ _ _ U).under;obtain ⟨fd,h3,h4,h5,-⟩:=h2 f h b V;have e:(Instr.field t (.agg vs.toArray) f).run P w = .ok v w:=by
  simp only [Instr.field,ij,AD h1,gY,h3,asAgg,iC,part,h5,h4,CB (T _ _ _ N),X];simp [Z]
 simp [execOp,ha.ev Y,e]
def D3 {xs:List (Nat×Operand)} {ps:List (Nat×Value)} {G:List (Nat×Nat×lV)} {zt:Ey} (out:lV) (T:TabOk P tab) (Z:Ct P zt)
 (M:AB tab t=some (.struct h,sz)) (N:CP zt t=some zs) (O:I2 tab h l xs=some (ps,G)) (U:IM G zs=some out):Br P n l S (.build t xs.toArray) ty (.agg out.toArray):=Uy T Z M N O U
def BV (us:lV) (T:TabOk P tab) (h:AB tab t=some (s,sz)) (G:s.agg=true) (M:ev l x=some (.pointer (some ⟨b,o,none⟩)))
 (N:∀w,S w->Blk w b vs) (O:jr (o+sz) vs.length=true) (U:(vs.drop o).take sz=us):Br P n l S (.load t x) ty (.agg us.toArray):=by subst U;exact EZ T h G M N O
def Dy (us:lV) (T:TabOk P tab) (h:AB tab t=some (s,sz)) (G:s.agg=true) (M:ev l x=some (.pointer (some ⟨b,o+i,none⟩)))
 (N:∀w,S w->Row w ⟨b,o,none⟩ vs) (O:jr (i+sz) vs.length=true) (U:(vs.drop i).take sz=us):Br P n l S (.load t x) ty (.agg us.toArray):=by subst U;exact IN T h G M N O
def O4 {a:Act} (M:Env n l a) {ops:Array Oper} {h:Bool} {o:Oper} (O:o.guard=some (j,h)) (U:BL ops j=some b) (V:iE b n=true) (X:look l b=some undef) :
 Region.wanted o (yielded ops a.tmps)=false:=by
 have N:=M.has b _ X;have G:b<a.tmps.size:=by rw [M.size];exact iA V
 have Y:a.tmps[b]? = some undef:=by
  rw [jf,jk G] at N;rw [jk G];simpa using N
 have Z:(ops[j]?).bind (·.dst)=some b:=by simpa [BL] using U
 unfold Region.wanted yielded;simp only [O,Z,jZ,Y];cases h<;>rfl
section rules
variable {ops:Array Oper} {rest:List Oper} {d:Nat} {pos:String} {after:Array Edge}
def Du (vs:lV) (h:ev l x=some v) (G:v.cells=vs.toArray) (M:iE d n=true)
 (k:∀b w1,New w w1 b vs->LW P n ops Q rest ((d,.pointer (some ⟨b,0,none⟩))::l) w1):LW P n ops Q (⟨some d,.box t x,ty,pos,after,none⟩::rest) l w:=LZ h G M k
def ED {zt:Ey} (vs:lV) (Z:Ct P zt) (h:CP zt t=some vs) (G:iE d n=true)
 (k:∀b w1,New w w1 b vs->LW P n ops Q rest ((d,.pointer (some ⟨b,0,none⟩))::l) w1):LW P n ops Q (⟨some d,.alloc t,ty,pos,after,none⟩::rest) l w:=Hc Z h G k
def KC (us h:lV) (T:TabOk P tab) (G:AB tab t=some (s,sz)) (M:ev l x=some (.pointer (some ⟨b,o,none⟩))) (N:ev l y=some v)
 (O:v.cells=us.toArray) (U:us.length=sz) (V:us.all Value.one=true) (X:Blk w b vs) (Y:jr (o+us.length) vs.length=true) (Z:A7 vs o us=h)
 (k:∀w1,Put w w1 b h->LW P n ops Q rest l w1):LW P n ops Q (⟨none,.store t x y,ty,pos,after,none⟩::rest) l w:=by
 subst Z;exact L0 T G M N O U V X Y k
def Dl (us:lV) (T:TabOk P tab) (h:AB tab t=some (s,sz)) (G:ev l x=some (.pointer (some ⟨b,0,none⟩))) (M:ev l y=some v)
 (N:v.cells=us.toArray) (O:us.length=sz) (U:us.all Value.one=true) (V:New w0 w b vs) (X:us.length=vs.length)
 (k:∀w1,New w0 w1 b us->LW P n ops Q rest l w1):LW P n ops Q (⟨none,.store t x y,ty,pos,after,none⟩::rest) l w:=JC T h G M N O U V X k
def Dd {h len:Nat} {zt:Ey} (cs:lV) (T:TabOk P tab) (Z:Ct P zt) (M:AB tab t=some (.slice e,sz)) (N:AB tab e=some (s,h))
 (O:CP zt e=some zs) (U:GI l 0 ps=some vs) (V:vs.length=len) (X:vs.all (λv=>jv v.cells.size h)=true) (Y:jr (len*h) 10000=true) (G:iE 0 (len*h)=true) (he:(vs.map (·.cells.toList)).flatten=cs) :
 BE P n l (.buildSlice t len ps.toArray) ty w (O0 w len cs e):=by subst he;exact Sj T Z M N O U V X Y G
def A1 (us:lV) (T:TabOk P tab) (h:AB tab t=some (s,sz)) (G:s.agg=true) (M:ev l x=some (.pointer (some ⟨b,o,none⟩)))
 (N:Blk w b vs) (O:jr (o+sz) vs.length=true) (U:(vs.drop o).take sz=us) (V:iE d n=true) (k:LW P n ops Q rest ((d,.agg us.toArray)::l) w):LW P n ops Q (⟨some d,.load t x,ty,pos,after,none⟩::rest) l w:=by
 subst U;exact Sm T h G M N O V k
def BT (us:lV) (T:TabOk P tab) (h:AB tab t=some (s,sz)) (G:s.agg=true) (M:ev l x=some (.pointer (some ⟨b,o+i,none⟩)))
 (N:Row w ⟨b,o,none⟩ vs) (O:jr (i+sz) vs.length=true) (U:(vs.drop i).take sz=us) (V:iE d n=true) (k:LW P n ops Q rest ((d,.agg us.toArray)::l) w):LW P n ops Q (⟨some d,.load t x,ty,pos,after,none⟩::rest) l w:=by
 subst U;exact Sn T h G M N O V k
def Dm {K:Nat} {r M:Sc} (us G:lV) (N:ops.toList[i]? = some ⟨none,.store t x y,ty,pos,after,none⟩) (T:TabOk P tab) (O:AB tab t=some (s,sz)) (U:ev l x=some (.pointer (some ⟨b,o,none⟩))) (V:ev l y=some v)
 (X:v.cells=us.toArray) (Y:us.length=sz) (Z:us.all Value.one=true) (hb:Blk w b vs) (ho:jr (o+us.length) vs.length=true) (he:A7 vs o us=G)
 (k:∀w1,Put w w1 b G->S w1/\TW P n ops Q S K M l w1) (kr:TW P n ops Q S K r l w):TW P n ops Q S K (.fork i M r) l w:=by
 subst he;exact Ws N (D1 T O U V X Y Z hb ho) (λv w1 h=>by cases v with|none=>exact k w1 h|some _=>exact h.elim) kr
def L7 {h:Bool} (M:BL ops j=some b) (N:iE b n=true) (O:look l b=some undef) (U:iE d n=true)
 (k:LW P n ops Q rest ((d,undef)::l) w):LW P n ops Q (⟨some d,op,ty,pos,after,some (j,h)⟩::rest) l w:=by
 unfold LW at k ⊢;intro a G;unfold wpList;rw [O4 G rfl M N O];exact k _ (G.put U undef)
end rules
def TK {a b m:Int} (G:ev l x=some (.int .i64 a)) (M:ev l y=some (.int .i64 b)) (N:max a b=m):Br P n l S (.call ⟨.builtin .max,#[x,y],#[t,t']⟩) ty (.int .i64 m):=by
 unfold Br;intro c w O pos after g h _;have e:(if b>a then b else a)=m:=by rw [<-N];split<;>omega
 simp [execOp,resolve,invoke,builtin,Builtin.max_,Builtin.max2,h.ev G,h.ev M,e]
def Il {k:IntKind} {a b c:Int} (G:ev l x=some (.int k a)) (M:ev l y=some (.int k b)) (N:b≠0) (O:k.wrap (a.tdiv b)=c):Br P n l S (.binOp .quo t x y t') ty (.int k c):=by
 unfold Br;intro d w U pos after g h _;subst O;simp [execOp,h.ev G,h.ev M,Bv,binOp,Op.intDiv,N]
def LP {k:IntKind} {a b c:Int} (G:ev l x=some (.int k a)) (M:ev l y=some (.int k b)) (N:b≠0) (O:a.tmod b=c):Br P n l S (.binOp .rem t x y t') ty (.int k c):=by
 unfold Br;intro d w U pos after g h _;subst O;simp [execOp,h.ev G,h.ev M,Bv,binOp,Op.intDiv,N]
def JI (i:Int) (h:0<=i) (G:i<=18446744073709551615):IntKind.u64.wrap i=i:=by rw [jo];simp [IntKind.signed,IntKind.bits];omega
end
section
variable {d:Nat} {ops:Array Oper} {rest:List Oper} {pos:String} {after:Array Edge}
def cN (h:LW P n G.toArray (Exit.then (u.wp P Q) Q) G l w):LW P n ops (Exit.then ((Code.seq (.region t G.toArray false) u).wp P Q) Q) [] l w:=Ak (Ai (Aj (Al h)))
def cT (h:CW P n u Q l w):LW P n ops (Exit.then (u.wp P Q) Q) [] l w:=Ak (Ai h)
def cS (h:LW P n G.toArray (Exit.then (u.wp P Q) Q) G l w):CW P n (.seq (.region t G.toArray false) u) Q l w:=Aj (Al h)
def cR {f:FuncId} {tys:Array TypeId} (M:BZ P f=true) (G:evs l xs=some vs) (C:Calls P f vs.toArray w R) (N:∀e w1,R e w1 -> ∃v,e = .returned v) (O:iE d n=true)
 (k:∀v w1,aL R (some v) w1->LW P n ops Q rest ((d,v)::l) w1):LW P n ops Q (⟨some d,.call ⟨.value (.func f),xs.toArray,tys⟩,ty,pos,after,none⟩::rest) l w:=
 Ax (AN M G C N) O k (λ_ h=>h)
def cC {f:FuncId} {tys:Array TypeId} {v0:Value} {R:wD->Prop} (G:evs l xs=some vs) (C:Calls P f vs.toArray w (λe w'=>e = .returned v0/\R w'))
 (k:∀v w1,aL (λe w'=>e = .returned v0/\R w') (some v) w1->LW P n ops Q rest ((d,v)::l) w1) (M:BZ P f=true:=by kernel_rfl) (N:iE d n=true:=by exact rfl):LW P n ops Q (⟨some d,.call ⟨.value (.func f),xs.toArray,tys⟩,ty,pos,after,none⟩::rest) l w:=
 Ax (AN M G C (λ_ _ h=>⟨_,h.1⟩)) N k (λ_ h=>h)
def Mv (h:ev l x=some v:=by exact rfl):Br P n l S (.move x) ty v:=Av h
def Pa (h:ev l x=some v:=by exact rfl):Br P n l S (.assign x) ty v:=I1 h
def Pn {a:Addr} (h:ev l x=some (.pointer (some a)):=by exact rfl):Br P n l S (.nilCheck x) ty (.pointer (some a)):=BF h
def Pf {s f h:Nat} (N:ev l x=some (.pointer (some ⟨b,o,none⟩)):=by exact rfl) (O:AB tab s=some (.struct M,sz):=by exact rfl) (U:M[f]? = some (h,t):=by exact rfl) :
 Br prog n l S (.fieldAddr s x f) ty (.pointer (some ⟨b,o+h,none⟩)):=AY Ac N O U
def Pg {s f:Nat} (M:ev l x=some (.pointer (some ⟨b,o,none⟩)):=by exact rfl) (N:AB tab s=some (.struct h,sz):=by exact rfl) (O:h[f]? = some (0,t):=by exact rfl) :
 Br prog n l S (.fieldAddr s x f) ty (.pointer (some ⟨b,o,none⟩)):=Cb Ac M N O
def Pi {i:Operand} {h len cap:Nat} {k:IntKind} {j:Int} (G:AB tab t=some (.slice e,sz):=by exact rfl) (M:AB tab e=some (s,h):=by exact rfl)
 (N:ev l x=some (.slice (some ⟨b,o,none⟩) len cap):=by exact rfl) (O:ev l i=some (.int k j):=by exact rfl) (U:0<=j:=by omega) (V:j<len:=by omega):Br prog n l S (.indexAddr t x i) ty (.pointer (some ⟨b,o+j.toNat*h,none⟩)):=AO Ac G M N O U V
def Pz {p:oA} {len cap:Nat} (h:AB tab t=some (.slice e,sz):=by exact rfl) (G:ev l x=some (.slice p len cap):=by exact rfl):Br prog n l S (.call ⟨.builtin .len,#[x],#[t]⟩) ty (.int .i64 len):=DS Ac h G
def Py {a:lB} (h:AB tab t=some (.str,sz):=by exact rfl) (G:ev l x=some (str a):=by exact rfl):Br prog n l S (.call ⟨.builtin .len,#[x],#[t]⟩) ty (.int .i64 a.length):=Uz Ac h G
def Px (h:ev l x=some (.tuple vs.toArray):=by exact rfl) (G:vs[i]? = some v:=by exact rfl):Br P n l S (.extract x i) ty v:=Qb h G
def Pt {t:TypeId} (h:ev l x=some (.bool q):=by exact rfl):Br P n l S (.unOp .not t x) ty (.bool !q):=TH h
section
variable {y:Operand} {k:IntKind} {a b:Int} {t t':TypeId}
def V1 (h:ev l x=some (.int k a):=by exact rfl) (G:ev l y=some (.int k b):=by exact rfl):Br P n l S (.binOp .eql t x y t') ty (.bool (decide (a=b))):=YG h G
def V2 (h:ev l x=some (.int k a):=by exact rfl) (G:ev l y=some (.int k b):=by exact rfl):Br P n l S (.binOp .neq t x y t') ty (.bool (decide (a≠b))):=OY h G
def V3 (h:ev l x=some (.int k a):=by exact rfl) (G:ev l y=some (.int k b):=by exact rfl):Br P n l S (.binOp .lss t x y t') ty (.bool (decide (a<b))):=YH h G
def V4 (h:ev l x=some (.int k a):=by exact rfl) (G:ev l y=some (.int k b):=by exact rfl):Br P n l S (.binOp .leq t x y t') ty (.bool (decide (a<=b))):=YI h G
def V5 (h:ev l x=some (.int k a):=by exact rfl) (G:ev l y=some (.int k b):=by exact rfl):Br P n l S (.binOp .gtr t x y t') ty (.bool (decide (b<a))):=YJ h G
def V6 (h:ev l x=some (.int k a):=by exact rfl) (G:ev l y=some (.int k b):=by exact rfl):Br P n l S (.binOp .geq t x y t') ty (.bool (decide (b<=a))):=YK h G
def V7 (G:ev l x=some (.int .i64 a):=by exact rfl) (M:ev l y=some (.int .i64 b):=by exact rfl) (h : -9223372036854775808<=a+b/\a+b<=9223372036854775807:=by omega):Br P n l S (.binOp .add t x y t') ty (.int .i64 (a+b)):=LN G M (gX _ h)
end
section
variable {y:Operand} {a b:lB} {t t':TypeId}
def V8 (h:ev l x=some (str a):=by exact rfl) (G:ev l y=some (str b):=by exact rfl):Br P n l S (.binOp .eql t x y t') ty (.bool (decide (a=b))):=Wo h G
def V9 (h:ev l x=some (str a):=by exact rfl) (G:ev l y=some (str b):=by exact rfl):Br P n l S (.binOp .neq t x y t') ty (.bool (decide (a≠b))):=Wp h G
end
section
variable {y:Operand} [Decidable p] {u:Value}
def Qn (h:¬p) (G:ev l c=some (.bool (decide p)):=by exact rfl) (M:ev l y=some u:=by exact rfl):Br P n l S (.pick c x y) ty u:=FU G M h
def TL (h:ev l c=some (.bool (decide p)):=by exact rfl) (G:ev l x=some u:=by exact rfl) (M:p:=by assumption):Br P n l S (.pick c x y) ty u:=GH h G M
def Sh (h:ev l c=some (.bool (decide p)):=by exact rfl) (G:ev l y=some u:=by exact rfl) (M:¬p:=by assumption):Br P n l S (.pick c x y) ty u:=FU h G M
def aN (h:ev l c=some (.bool (decide p)):=by exact rfl) (G:ev l x=some u:=by exact rfl) (M:p:=by decide):Br P n l S (.pick c x y) ty u:=GH h G M
def aO (h:ev l c=some (.bool (decide p)):=by exact rfl) (G:ev l y=some u:=by exact rfl) (M:¬p:=by decide):Br P n l S (.pick c x y) ty u:=FU h G M
def aP (h:ev l c=some (.bool (decide p)):=by exact rfl) (G:ev l x=some u:=by exact rfl) (M:p:=by omega):Br P n l S (.pick c x y) ty u:=GH h G M
def NY (h:ev l c=some (.bool (decide p)):=by exact rfl) (G:ev l y=some u:=by exact rfl) (M:¬p:=by omega):Br P n l S (.pick c x y) ty u:=FU h G M
end
def Pl (h:Blk w b vs) (G:AB tab t=some (s,sz):=by exact rfl) (M:s.agg=false:=by exact rfl) (N:ev l x=some (.pointer (some ⟨b,o,none⟩)):=by exact rfl)
 (O:vs[o]? = some v:=by exact rfl):Br prog n l (λx=>x=w) (.load t x) ty v:=Ap Ac G M N (λV U=>by subst U;exact h.cell O)
def Pw (h:Row w ⟨b,o,none⟩ vs) (G:AB tab t=some (s,sz):=by exact rfl) (M:s.agg=false:=by exact rfl) (N:ev l x=some (.pointer (some ⟨b,o+i,none⟩)):=by exact rfl)
 (O:vs[i]? = some v:=by exact rfl):Br prog n l (λx=>x=w) (.load t x) ty v:=Ap Ac G M N (λV U=>by subst U;exact h.at O)
def UC (h:Row w ⟨b,o,none⟩ vs) (G:AB tab t=some (s,sz):=by exact rfl) (M:s.agg=false:=by exact rfl) (N:ev l x=some (.pointer (some ⟨b,o,none⟩)):=by exact rfl)
 (O:vs[0]? = some v:=by exact rfl):Br prog n l (λx=>x=w) (.load t x) ty v:=Ap Ac G M N (λV U=>by subst U;exact h.at0 O)
def YN (h:Row w ⟨b,o,none⟩ vs) (G:AB tab t=some (s,sz):=by exact rfl) (M:s.agg=true:=by exact rfl) (N:ev l x=some (.pointer (some ⟨b,o,none⟩)):=by exact rfl)
 (O:vs.length=sz:=by exact rfl):Br prog n l (λx=>x=w) (.load t x) ty (.agg vs.toArray):=BC Ac G M N (λV U=>by subst U;exact h) O
section

def Db (G:Blk w0 b vs) (M:AB tab t=some (s,sz):=by exact rfl) (N:s.agg=false:=by exact rfl) (O:ev l x=some (.pointer (some ⟨b,o,none⟩)):=by exact rfl) (U:vs[o]? = some v:=by exact rfl) :
 Br prog n l (λh=>Ext w0 h) (.load t x) ty v:=Ap Ac M N O (λh V=>Blk.cell (Blk.ext G V) U)
def Dr (G:Row w0 ⟨b,o,none⟩ vs) (M:AB tab t=some (s,sz):=by exact rfl) (N:s.agg=false:=by exact rfl) (O:ev l x=some (.pointer (some ⟨b,o+i,none⟩)):=by exact rfl) (U:vs[i]? = some v:=by exact rfl) :
 Br prog n l (λh=>Ext w0 h) (.load t x) ty v:=Ap Ac M N O (λh V=>Row.at (Row.ext G V) U)
end
def C1 (h:Br P n l (λx=>x=w) op ty v) (k:LW P n ops Q rest ((d,v)::l) w) (G:iE d n=true:=by exact rfl):LW P n ops Q (⟨some d,op,ty,pos,after,none⟩::rest) l w:=De h G k
def Tq {K:Nat} {r:Sc} (h:ops.toList[i]? = some ⟨some d,op,ty,pos,after,none⟩) (G:Br P n l S op ty v) (k:TW P n ops Q S K r ((d,v)::l) w) (M:iE d n=true:=by exact rfl):TW P n ops Q S K (.pure i r) l w:=YM h G M k
section
variable {x y:Code} [Decidable p]
def YE (h:CW P n y Q l w) (G:ev l c=some (.bool (decide p)):=by exact rfl) (M:¬p:=by assumption):CW P n (.cond c x y) Q l w:=NQ G M h
def YO (h:CW P n x Q l w) (G:ev l c=some (.bool (decide p)):=by exact rfl) (M:p:=by assumption):CW P n (.cond c x y) Q l w:=Si G M h
def NH (h:CW P n y Q l w) (G:ev l c=some (.bool (decide p)):=by exact rfl) (M:¬p:=by decide):CW P n (.cond c x y) Q l w:=NQ G M h
def Wt (h:CW P n x Q l w) (G:ev l c=some (.bool (decide p)):=by exact rfl) (M:p:=by decide):CW P n (.cond c x y) Q l w:=Si G M h
def Dz (h:CW P n y Q l w) (G:ev l c=some (.bool (decide p)):=by exact rfl) (M:¬p:=by omega):CW P n (.cond c x y) Q l w:=NQ G M h
def TM (h:CW P n x Q l w) (G:ev l c=some (.bool (decide p)):=by exact rfl) (M:p:=by omega):CW P n (.cond c x y) Q l w:=Si G M h
end
section
variable {dj:Nat} [Decidable p]
def fP (k:LW P n ops Q (⟨some d,op,ty,pos,after,none⟩::rest) l w) (h:BL ops j=some dj:=by exact rfl) (G:iE dj n=true:=by exact rfl) (M:look l dj=some (.bool (decide p)):=by exact rfl) (N:p:=by assumption):LW P n ops Q (⟨some d,op,ty,pos,after,some (j,true)⟩::rest) l w:=Bn h G M (G6 N) k
def O5 (k:LW P n ops Q (⟨some d,op,ty,pos,after,none⟩::rest) l w) (h:BL ops j=some dj:=by exact rfl) (G:iE dj n=true:=by exact rfl) (M:look l dj=some (.bool (decide p)):=by exact rfl) (N:p:=by decide):LW P n ops Q (⟨some d,op,ty,pos,after,some (j,true)⟩::rest) l w:=Bn h G M (G6 N) k
def dP (k:LW P n ops Q (⟨some d,op,ty,pos,after,none⟩::rest) l w) (h:BL ops j=some dj:=by exact rfl) (G:iE dj n=true:=by exact rfl) (M:look l dj=some (.bool (decide p)):=by exact rfl) (N:p:=by omega):LW P n ops Q (⟨some d,op,ty,pos,after,some (j,true)⟩::rest) l w:=Bn h G M (G6 N) k
def FN (k:LW P n ops Q (⟨some d,op,ty,pos,after,none⟩::rest) l w) (h:BL ops j=some dj:=by exact rfl) (G:iE dj n=true:=by exact rfl) (M:look l dj=some (.bool (decide p)):=by exact rfl) (N:¬p:=by assumption):LW P n ops Q (⟨some d,op,ty,pos,after,some (j,false)⟩::rest) l w:=Bn h G M (Fj N) k
def fT (k:LW P n ops Q (⟨some d,op,ty,pos,after,none⟩::rest) l w) (h:BL ops j=some dj:=by exact rfl) (G:iE dj n=true:=by exact rfl) (M:look l dj=some (.bool (decide p)):=by exact rfl) (N:¬p:=by decide):LW P n ops Q (⟨some d,op,ty,pos,after,some (j,false)⟩::rest) l w:=Bn h G M (Fj N) k
def EA (k:LW P n ops Q (⟨some d,op,ty,pos,after,none⟩::rest) l w) (h:BL ops j=some dj:=by exact rfl) (G:iE dj n=true:=by exact rfl) (M:look l dj=some (.bool (decide p)):=by exact rfl) (N:¬p:=by omega):LW P n ops Q (⟨some d,op,ty,pos,after,some (j,false)⟩::rest) l w:=Bn h G M (Fj N) k
def FO (k:LW P n ops Q rest ((d,undef)::l) w) (h:BL ops j=some dj:=by exact rfl) (G:iE dj n=true:=by exact rfl) (M:look l dj=some (.bool (decide p)):=by exact rfl) (N:p:=by assumption) (O:iE d n=true:=by exact rfl):LW P n ops Q (⟨some d,op,ty,pos,after,some (j,false)⟩::rest) l w:=Bh h G M (NV N) O k
def Wu (k:LW P n ops Q rest ((d,undef)::l) w) (h:BL ops j=some dj:=by exact rfl) (G:iE dj n=true:=by exact rfl) (M:look l dj=some (.bool (decide p)):=by exact rfl) (N:p:=by decide) (O:iE d n=true:=by exact rfl):LW P n ops Q (⟨some d,op,ty,pos,after,some (j,false)⟩::rest) l w:=Bh h G M (NV N) O k
def gE (k:LW P n ops Q rest ((d,undef)::l) w) (h:BL ops j=some dj:=by exact rfl) (G:iE dj n=true:=by exact rfl) (M:look l dj=some (.bool (decide p)):=by exact rfl) (N:p:=by omega) (O:iE d n=true:=by exact rfl):LW P n ops Q (⟨some d,op,ty,pos,after,some (j,false)⟩::rest) l w:=Bh h G M (NV N) O k
def So (k:LW P n ops Q rest ((d,undef)::l) w) (h:BL ops j=some dj:=by exact rfl) (G:iE dj n=true:=by exact rfl) (M:look l dj=some (.bool (decide p)):=by exact rfl) (N:¬p:=by assumption) (O:iE d n=true:=by exact rfl):LW P n ops Q (⟨some d,op,ty,pos,after,some (j,true)⟩::rest) l w:=Bh h G M (IP N) O k
def YF (k:LW P n ops Q rest ((d,undef)::l) w) (h:BL ops j=some dj:=by exact rfl) (G:iE dj n=true:=by exact rfl) (M:look l dj=some (.bool (decide p)):=by exact rfl) (N:¬p:=by decide) (O:iE d n=true:=by exact rfl):LW P n ops Q (⟨some d,op,ty,pos,after,some (j,true)⟩::rest) l w:=Bh h G M (IP N) O k
def gF (k:LW P n ops Q rest ((d,undef)::l) w) (h:BL ops j=some dj:=by exact rfl) (G:iE dj n=true:=by exact rfl) (M:look l dj=some (.bool (decide p)):=by exact rfl) (N:¬p:=by omega) (O:iE d n=true:=by exact rfl):LW P n ops Q (⟨some d,op,ty,pos,after,some (j,true)⟩::rest) l w:=Bh h G M (IP N) O k
end
end
 class LfE (w w':wD) (p:Prop) (q:outParam Prop):Prop where
 up:Ext w w'->p->q
 class LfF (S:nP) (w w':wD) (p:Prop) (s q:outParam Prop):Prop where
 up:Fr S w w'->s->p->q
 class ChE (w w':wD) (g:Prop) (g':outParam Prop):Prop where
 up:Ext w w'->g'->g
 class ChF (S:nP) (w w':wD) (g:Prop) (s g':outParam Prop):Prop where
 up:Fr S w w'->s->g'->g
instance (priority:=low) chE0:ChE w w' g g:=⟨λ_ h=>h⟩
instance (priority:=low) chF0 {S:nP}:ChF S w w' g True g:=⟨λ_ _ h=>h⟩
instance chE1 {q:Prop} [LfE w w' p q] [ChE w w' g g']:ChE w w' (p->g) (q->g'):=⟨λx h a=>ChE.up x (h (LfE.up x a))⟩
instance chF1 {S:nP} {s q r:Prop} [LfF S w w' p s q] [ChF S w w' g r g']:ChF S w w' (p->g) (s/\r) (q->g'):=⟨λx s h a=>ChF.up x s.2 (h (LfF.up x s.1 a))⟩
def eE (x:Ext w w') (k:g') [ChE w w' g g']:g:=ChE.up x k
def eF {S:nP} {s:Prop} (x:Fr S w w') (k:g') [ChF S w w' g s g'] (h:s:=by (repeat' apply And.intro)<;>first|exact trivial|omega|(simp only;omega)|exact λk G=>gP G|exact λb M h=>h (gP M)|exact λk G=>gP (λh=>G (gP h))|exact λh=>h (gQ ⟨by omega,by omega⟩)|exact λh=>h (gP (gQ ⟨by omega,by omega⟩))):g:=ChF.up x h k
section
variable {d:Nat} {ops:Array Oper} {rest:List Oper} {pos:String} {after:Array Edge}
def eB (vs:lV) (k:∀b w1,Blk w1 b vs->Ext w w1->b=w.heap.size->w1.heap.size=b+1->LW P n ops Q rest ((d,.pointer (some ⟨b,0,none⟩))::l) w1) (G:ev l x=some v:=by exact rfl) (M:v.cells=vs.toArray:=by exact rfl) (N:iE d n=true:=by exact rfl) :
 LW P n ops Q (⟨some d,.box t x,ty,pos,after,none⟩::rest) l w:=Du vs G M N λb w1 h=>k b w1 h.blk h.ext h.pos h.size
def eA (vs:lV) (k:∀b w1,Blk w1 b vs->Ext w w1->b=w.heap.size->w1.heap.size=b+1->LW prog n ops Q rest ((d,.pointer (some ⟨b,0,none⟩))::l) w1) (G:CP zt t=some vs:=by exact rfl) (M:iE d n=true:=by exact rfl) :
 LW prog n ops Q (⟨some d,.alloc t,ty,pos,after,none⟩::rest) l w:=ED vs CJ G M λb w1 h=>k b w1 h.blk h.ext h.pos h.size
def eI (us:lV) (G:New w0 w b vs) (k:∀w1,Blk w1 b us->Ext w0 w1->b=w0.heap.size->w1.heap.size=b+1->LW prog n ops Q rest l w1) (M:AB tab t=some (s,sz):=by exact rfl)
 (N:ev l x=some (.pointer (some ⟨b,0,none⟩)):=by exact rfl) (O:ev l z=some v:=by exact rfl) (U:v.cells=us.toArray:=by exact rfl) (V:us.length=sz:=by exact rfl) (X:us.all Value.one=true:=by exact rfl) (Y:us.length=vs.length:=by exact rfl) :
 LW prog n ops Q (⟨none,.store t x z,ty,pos,after,none⟩::rest) l w:=Dl us Ac M N O U V X G Y λw1 h=>k w1 h.blk h.ext h.pos h.size
def eV (us G:lV) (M:Blk w b vs) (k:∀w1,Blk w1 b G->Fr (· = b) w w1->w1.heap.size=w.heap.size->LW prog n ops Q rest l w1) (N:AB tab t=some (s,sz):=by exact rfl)
 (O:ev l x=some (.pointer (some ⟨b,o,none⟩)):=by exact rfl) (U:ev l z=some v:=by exact rfl) (V:v.cells=us.toArray:=by exact rfl) (X:us.length=sz:=by exact rfl) (Y:us.all Value.one=true:=by exact rfl) (Z:jr (o+us.length) vs.length=true:=by exact rfl) (he:A7 vs o us=G:=by exact rfl) :
 LW prog n ops Q (⟨none,.store t x z,ty,pos,after,none⟩::rest) l w:=KC us G Ac N O U V X Y M Z he λw1 h=>k w1 h.blk h.fr h.size
def eS (us:lV) (G:Blk w b vs) (k:∀w1,Blk w1 b us->Fr (· = b) w w1->w1.heap.size=w.heap.size->LW prog n ops Q rest l w1) (M:AB tab t=some (s,sz):=by exact rfl)
 (N:ev l x=some (.pointer (some ⟨b,o,none⟩)):=by exact rfl) (O:ev l z=some v:=by exact rfl) (U:v.cells=us.toArray:=by exact rfl) (V:us.length=sz:=by exact rfl) (X:us.all Value.one=true:=by exact rfl) (Y:jr (o+us.length) vs.length=true:=by exact rfl) (Z:A7 vs o us=us:=by exact rfl) :
 LW prog n ops Q (⟨none,.store t x z,ty,pos,after,none⟩::rest) l w:=KC us us Ac M N O U V X G Y Z λw1 h=>k w1 h.blk h.fr h.size
def eQ {f:FuncId} {tys:Array TypeId} (G:evs l xs=some vs) (C:Calls P f vs.toArray w R) (k:∀v w1,aL R (some v) w1->LW P n ops Q rest ((d,v)::l) w1) (M:BZ P f=true:=by kernel_rfl) (N:∀e w1,R e w1 -> ∃v,e = .returned v:=by exact λ_ _ h=>h.ret) (O:iE d n=true:=by exact rfl) :
 LW P n ops Q (⟨some d,.call ⟨.value (.func f),xs.toArray,tys⟩,ty,pos,after,none⟩::rest) l w:=cR M G C N O k
def NK (h:AB tab t=some (s,sz):=by exact rfl) (G:s.agg=false:=by exact rfl) (M:ev l x=some (.pointer (some ⟨b,o,none⟩)):=by exact rfl) (N:Blk w b vs:=by assumption)
 (O:vs[o]? = some v:=by exact rfl):Br prog n l (λx=>x=w) (.load t x) ty v:=Pl N h G M O
def gG (h:AB tab t=some (s,sz):=by exact rfl) (G:s.agg=false:=by exact rfl) (M:ev l x=some (.pointer (some ⟨b,o,none⟩)):=by exact rfl) (N:Row w ⟨b,o,none⟩ vs:=by assumption)
 (O:vs[0]? = some v:=by exact rfl):Br prog n l (λx=>x=w) (.load t x) ty v:=UC N h G M O
def gH (h:AB tab t=some (s,sz):=by exact rfl) (G:s.agg=true:=by exact rfl) (M:ev l x=some (.pointer (some ⟨b,o,none⟩)):=by exact rfl) (N:Row w ⟨b,o,none⟩ vs:=by assumption)
 (O:vs.length=sz:=by exact rfl):Br prog n l (λx=>x=w) (.load t x) ty (.agg vs.toArray):=YN N h G M O
def gI {M N:Value} (O:AB tab t=some (s,sz):=by exact rfl) (hz:jv sz 3=true:=by exact rfl) (U:s.agg=true:=by exact rfl) (V:ev l x=some (.pointer (some ⟨b,o,none⟩)):=by exact rfl) (X:Blk w b vs:=by assumption)
 (Y:jr (o+sz) vs.length=true:=by exact rfl) (Z:(vs.drop o).take sz=[v,M,N]:=by exact rfl):Br prog n l (λx=>x=w) (.load t x) ty (.agg ([v,M,N]:lV).toArray):=BV [v,M,N] Ac O U V (λwz h=>by subst h;exact X) Y Z
def gJ {M N O:Value} (U:AB tab t=some (s,sz):=by exact rfl) (hz:jv sz 4=true:=by exact rfl) (V:s.agg=true:=by exact rfl) (X:ev l x=some (.pointer (some ⟨b,o,none⟩)):=by exact rfl) (Y:Blk w b vs:=by assumption)
 (Z:jr (o+sz) vs.length=true:=by exact rfl) (he:(vs.drop o).take sz=[v,M,N,O]:=by exact rfl):Br prog n l (λx=>x=w) (.load t x) ty (.agg ([v,M,N,O]:lV).toArray):=BV [v,M,N,O] Ac U V X (λwz h=>by subst h;exact Y) Z he
def gK {M N O U:Value} (V:AB tab t=some (s,sz):=by exact rfl) (hz:jv sz 5=true:=by exact rfl) (X:s.agg=true:=by exact rfl) (Y:ev l x=some (.pointer (some ⟨b,o,none⟩)):=by exact rfl) (Z:Blk w b vs:=by assumption)
 (hl:jr (o+sz) vs.length=true:=by exact rfl) (he:(vs.drop o).take sz=[v,M,N,O,U]:=by exact rfl):Br prog n l (λx=>x=w) (.load t x) ty (.agg ([v,M,N,O,U]:lV).toArray):=BV [v,M,N,O,U] Ac V X Y (λwz h=>by subst h;exact Z) hl he
def gL {M N O U V:Value} (X:AB tab t=some (s,sz):=by exact rfl) (hz:jv sz 6=true:=by exact rfl) (Y:s.agg=true:=by exact rfl) (Z:ev l x=some (.pointer (some ⟨b,o,none⟩)):=by exact rfl) (hb:Blk w b vs:=by assumption)
 (hl:jr (o+sz) vs.length=true:=by exact rfl) (he:(vs.drop o).take sz=[v,M,N,O,U,V]:=by exact rfl):Br prog n l (λx=>x=w) (.load t x) ty (.agg ([v,M,N,O,U,V]:lV).toArray):=BV [v,M,N,O,U,V] Ac X Y Z (λwz h=>by subst h;exact hb) hl he
end
def eY (x:Ext w w') (k:w.heap.size<=w'.heap.size->g') [ChE w w' g g']:g:=ChE.up x (k x.size)
def eZ {S:nP} {s:Prop} (x:Fr S w w') (k:w.heap.size<=w'.heap.size->g') [ChF S w w' g s g'] (h:s:=by (repeat' apply And.intro)<;>first|exact trivial|omega|(simp only;omega)|exact λk G=>gP G|exact λb M h=>h (gP M)|exact λk G=>gP (λh=>G (gP h))|exact λh=>h (gQ ⟨by omega,by omega⟩)|exact λh=>h (gP (gQ ⟨by omega,by omega⟩))):g:=ChF.up x h (k x.size)
def sB {m:Sl} (h:TG m l:=by repeat (first|exact BK|refine An rfl ?_)):TG m l:=h
def sC {m:Sl} (h:TG m l:=by repeat (first|exact BK|refine An rfl ?_|refine B4 rfl (by go_num) ?_)):TG m l:=h
structure Hd (p:Prop):Prop where
 out:p
instance {S:nP} {l:List Nd} {a:oA}:LfE w w' (rowSits S w l a) (rowSits S w' l a):=⟨λx h=>Bk.rowSits.ext h x⟩
instance {S:nP} {t:Nd} {a:oA}:LfE w w' (t.sits S w a) (t.sits S w' a):=⟨λx h=>Bk.Nd.sits.ext h x⟩
instance {S:nP} {l:List Nd} {a:oA}:LfF T w w' (rowSits S w l a) (∀b,S b -> ¬T b) (rowSits S w' l a):=⟨λx s h=>Bk.rowSits.fr h x s⟩
instance {S:nP} {t:Nd} {a:oA}:LfF T w w' (t.sits S w a) (∀b,S b -> ¬T b) (t.sits S w' a):=⟨λx s h=>Bk.Nd.sits.fr h x s⟩
instance:LfE w w' (Blk w b vs) (Blk w' b vs):=⟨λx h=>Bk.Blk.ext h x⟩
instance {S:nP}:LfF S w w' (Blk w b vs) (¬S b) (Blk w' b vs):=⟨λx s h=>Bk.Blk.fr h x s⟩
instance {p:Addr}:LfE w w' (Row w p vs) (Row w' p vs):=⟨λx h=>Bk.Row.ext h x⟩
instance {S:nP} {p:Addr}:LfF S w w' (Row w p vs) (¬S p.block) (Row w' p vs):=⟨λx s h=>Bk.Row.fr h x s⟩
instance {T:TypeId}:LfE w w' (TB w b vs T) (TB w' b vs T):=⟨λx h=>Bk.TB.ext h x⟩
instance:LfE w w' (Own w b e sz v n cs) (Own w' b e sz v n cs):=⟨λx h=>Bk.Own.ext h x⟩
instance {S:nP}:LfF S w w' (Own w b e sz v n cs) (∀k,v.ownBlock=some k -> ¬S k) (Own w' b e sz v n cs):=⟨λx s h=>Bk.Own.fr h x s⟩
instance {kvs:List (lB×Value)}:LfE w w' (MapIs w r kvs) (MapIs w' r kvs):=⟨λx h=>Bk.MapIs.ext h x⟩
instance {S:nP} {kvs:List (lB×Value)}:LfF S w w' (MapIs w r kvs) (¬S r) (MapIs w' r kvs):=⟨λx s h=>Bk.MapIs.fr h x s⟩
instance {a b c:wD}:LfE b c (Ext a b) (Ext a c):=⟨λx h=>Bk.Ext.ext h x⟩
instance {S:nP} {a b c:wD}:LfE b c (Fr S a b) (Fr S a c):=⟨λx h=>Bk.Fr.ext h x⟩
instance {S:nP} {a b c:wD}:LfF S b c (Ext a b) (∀k,S k->a.heap.size<=k) (Ext a c):=⟨λx s h=>Bk.Ext.fr h x s⟩
instance {S:nP} {a b c:wD}:LfF S b c (Fr T a b) (∀k,S k->T k\/a.heap.size<=k) (Fr T a c):=⟨λx s h=>Bk.Fr.fr h x s⟩
instance {S:nP} {T:TypeId}:LfF S w w' (TB w b vs T) (¬S b) (TB w' b vs T):=⟨λx s h=>Bk.TB.fr h x s⟩
def eK {B:Prop} (a:p) (h:Hd p->B:=by
 intro a
 repeat (first
  | refine cS ?_|refine cN ?_|refine cT ?_|refine C1 Mv ?_|refine C1 Pa ?_|refine C1 NK ?_|refine C1 gJ ?_|refine C1 gL ?_|refine C1 gI ?_|refine C1 gK ?_|refine C1 gG ?_|refine C1 gH ?_|refine C1 Pg ?_|refine C1 Pf ?_|refine C1 V1 ?_|refine C1 V8 ?_|refine C1 V2 ?_|refine C1 V3 ?_|refine C1 Pz ?_|refine C1 Py ?_|refine C1 Pn ?_|refine C1 Px ?_|refine C1 Pt ?_|refine C1 Pi ?_|refine C1 V7 ?_|refine C1 V4 ?_|refine C1 V5 ?_|refine C1 V6 ?_|refine C1 V9 ?_
  | refine Aj ?_|refine Au ?_|refine Ao ?_|refine Ai ?_|refine As ?_|refine AJ ?_|refine Az ?_|refine A0 ?_|refine B9 ?_|refine AR ?_|refine Ah ?_|refine Al ?_|refine Ak ?_
  | refine YE ?_|refine YO ?_|refine BO rfl ?_|refine Ba rfl ?_|refine NH ?_|refine Wt ?_|refine Dz ?_|refine TM ?_
  | refine fP ?_|refine FN ?_|refine FO ?_|refine So ?_|refine Bn rfl rfl rfl (rfl) ?_|refine Bh rfl rfl rfl (rfl) rfl ?_|refine O5 ?_|refine fT ?_|refine Wu ?_|refine YF ?_|refine dP ?_|refine EA ?_|refine gE ?_|refine gF ?_
  | refine C1 (BR rfl rfl rfl) ?_|refine C1 (Co rfl rfl rfl) ?_|refine C1 TL ?_|refine C1 Sh ?_|refine C1 aN ?_|refine C1 aO ?_|refine C1 aP ?_|refine C1 NY ?_)
 exact a.out):B:=h ⟨a⟩
section
variable {d K:Nat} {ops:Array Oper} {r:Sc} {pos:String} {after:Array Edge}
def eD (h:AB tab t=some (s,sz):=by exact rfl) (G:s.agg=false:=by exact rfl) (M:ev l x=some (.pointer (some ⟨b,o,none⟩)):=by exact rfl) (N:Blk w0 b vs:=by assumption) (O:vs[o]? = some v:=by exact rfl) :
 Br prog n l (λU=>Ext w0 U) (.load t x) ty v:=Db N h G M O
def eN {h b:Bool} (G:ops.toList[i]? = some ⟨some d,op,ty,pos,after,some (j,h)⟩) (M:Br P n l S op ty v) (k:TW P n ops Q S K r ((d,v)::l) w) (N:BL ops j=some t:=by exact rfl) (O:iE t n=true:=by exact rfl) (U:look l t=some (.bool b):=by exact rfl) (V:(b==h)=true:=by first|exact G6 ‹_› | exact Fj ‹_› | rfl|exact G6 (by decide)|exact Fj (by decide)|exact G6 (by omega)|exact Fj (by omega)) (X:iE d n=true:=by exact rfl) :
 TW P n ops Q S K (.pure i r) l w:=Hk G N O U V M X k
def eM {h b:Bool} (G:ops.toList[i]? = some ⟨some d,op,ty,pos,after,some (j,h)⟩) (k:TW P n ops Q S K r ((d,undef)::l) w) (M:BL ops j=some t:=by exact rfl) (N:iE t n=true:=by exact rfl) (O:look l t=some (.bool b):=by exact rfl) (U:(b==h)=false:=by first|exact NV ‹_› | exact IP ‹_› | rfl|exact NV (by decide)|exact IP (by decide)|exact NV (by omega)|exact IP (by omega)) (V:iE d n=true:=by exact rfl) :
 TW P n ops Q S K (.pure i r) l w:=L5 G M N O U V k
end
def eT {B:Prop} (a:p) (h:Hd p->B:=by
 intro a
 repeat (first
  | refine Tq rfl Mv ?_|refine Tq rfl eD ?_|refine Tq rfl Pg ?_|refine Tq rfl Pf ?_|refine Tq rfl Pn ?_|refine Tq rfl V1 ?_|refine Tq rfl V8 ?_|refine Tq rfl V2 ?_|refine Tq rfl V3 ?_|refine Tq rfl Pz ?_|refine Tq rfl Py ?_|refine Tq rfl Px ?_|refine Tq rfl Pt ?_|refine Tq rfl Pa ?_|refine Tq rfl Pi ?_|refine Tq rfl V7 ?_|refine Tq rfl V4 ?_|refine Tq rfl V5 ?_|refine Tq rfl V6 ?_|refine Tq rfl V9 ?_|refine Tq rfl (BR rfl rfl rfl) ?_|refine Tq rfl (Co rfl rfl rfl) ?_|refine Tq rfl TL ?_|refine Tq rfl Sh ?_|refine Tq rfl aN ?_|refine Tq rfl aO ?_|refine Tq rfl aP ?_|refine Tq rfl NY ?_
  | refine eN rfl Mv ?_|refine eN rfl eD ?_|refine eN rfl Pg ?_|refine eN rfl Pf ?_|refine eN rfl Pn ?_|refine eN rfl V1 ?_|refine eN rfl V8 ?_|refine eN rfl V2 ?_|refine eN rfl V3 ?_|refine eN rfl Pz ?_|refine eN rfl Py ?_|refine eN rfl Px ?_|refine eN rfl Pt ?_|refine eN rfl Pa ?_|refine eN rfl Pi ?_|refine eN rfl V7 ?_|refine eN rfl V4 ?_|refine eN rfl V5 ?_|refine eN rfl V6 ?_|refine eN rfl V9 ?_|refine eN rfl (BR rfl rfl rfl) ?_|refine eN rfl (Co rfl rfl rfl) ?_|refine eN rfl TL ?_|refine eN rfl Sh ?_|refine eN rfl aN ?_|refine eN rfl aO ?_|refine eN rfl aP ?_|refine eN rfl NY ?_
  | refine eM rfl ?_)
 exact a.out):B:=h ⟨a⟩
section
variable {d:Nat} {ops:Array Oper} {rest:List Oper} {pos:String} {after:Array Edge}
def xS {h len:Nat} {sE:Sk} (cs:lV) (M:AB tab t=some (.slice e,sz):=by exact rfl) (N:AB tab e=some (sE,h):=by exact rfl) (O:CP zt e=some zs:=by exact rfl) (U:GI l 0 ps=some vs:=by exact rfl) (V:vs.length=len:=by exact rfl)
 (X:vs.all (λv=>jv v.cells.size h)=true:=by exact rfl) (Y:jr (len*h) 10000=true:=by exact rfl) (G:iE 0 (len*h)=true:=by exact rfl) (Z:(vs.map (·.cells.toList)).flatten=cs:=by exact rfl):BE prog n l (.buildSlice t len ps.toArray) ty w (O0 w len cs e):=Dd cs Ac CJ M N O U V X Y G Z
def xB {xs:List (Nat×Operand)} {ps:List (Nat×Value)} {G:List (Nat×Nat×lV)} (out:lV) (M:AB tab t=some (.struct h,sz):=by exact rfl) (N:CP zt t=some zs:=by exact rfl) (O:I2 tab h l xs=some (ps,G):=by exact rfl) (U:IM G zs=some out:=by exact rfl) :
 Br prog n l S (.build t xs.toArray) ty (.agg out.toArray):=D3 out Ac CJ M N O U
def xR (G:R (.returned v) w) (h:fn.results = #[.tmp t]:=by exact rfl) (M:look l t=some v:=by exact rfl):QW n (bodyPost P fn R) .ret l w:=AT h M G
def xC {ty:Nat} (G:Blk w b vs) (M:R (.returned (.agg vs.toArray)) w) (h:fn.results = #[.cell t ty]:=by exact rfl) (N:AB tab ty=some (s,sz):=by exact rfl) (O:s.agg=true:=by exact rfl) (U:look l t=some (.pointer (some ⟨b,0,none⟩)):=by exact rfl) (V:vs.length=sz:=by exact rfl):QW n (bodyPost prog fn R) .ret l w:=TJ h Ac N O U G V M
def xA (vs:lV) (k:∀b w1,New w w1 b vs->LW prog n ops Q rest ((d,.pointer (some ⟨b,0,none⟩))::l) w1) (h:CP zt t=some vs:=by exact rfl) (G:iE d n=true:=by exact rfl):LW prog n ops Q (⟨some d,.alloc t,ty,pos,after,none⟩::rest) l w:=ED vs CJ h G k
def xL (us:lV) (h:∀w,S w->Blk w b vs) (G:AB tab t=some (s,sz):=by exact rfl) (M:s.agg=true:=by exact rfl) (N:ev l x=some (.pointer (some ⟨b,o,none⟩)):=by exact rfl) (O:jr (o+sz) vs.length=true:=by exact rfl) (U:(vs.drop o).take sz=us:=by exact rfl) :
 Br prog n l S (.load t x) ty (.agg us.toArray):=BV us Ac G M N h O U
end
section
variable {d K:Nat} {ops:Array Oper} {x:Sc} {pos:String} {after:Array Edge}
def tC {f:FuncId} {tys:Array TypeId} (M:ops.toList[i]? = some ⟨some d,.call ⟨.value (.func f),xs.toArray,tys⟩,ty,pos,after,none⟩) (G:evs l xs=some vs) (C:Calls P f vs.toArray w R)
 (k:∀v w1,aL R (some v) w1->S w1/\TW P n ops Q S K x ((d,v)::l) w1) (N:BZ P f=true:=by kernel_rfl) (O:∀e w1,R e w1 -> ∃v,e = .returned v:=by first|exact λ_ _ h=>h.ret|exact λ_ _ h=>⟨_,h.1⟩) (U:iE d n=true:=by exact rfl):TW P n ops Q S K (.fork i x .none) l w:=
 AE M (AN N G C O) U k (λ_ h=>h) AC
end
section
variable {d:Nat} {ops:Array Oper} {rest:List Oper} {pos:String} {after:Array Edge} {B:Prop}
def kR (G:R (.returned v) w) (a:Hd (QW n (bodyPost P fn R) .ret l w)->B:=by exact λa=>eK a.out) (h:fn.results = #[.tmp t]:=by exact rfl) (M:look l t=some v:=by exact rfl):B:=a ⟨AT h M G⟩
def kT {u:Nat} {x:Value} (G:R (.returned (.tuple #[v,x])) w) (a:Hd (QW n (bodyPost P fn R) .ret l w)->B:=by exact λa=>eK a.out) (h:fn.results = #[.tmp t,.tmp u]:=by exact rfl) (M:look l t=some v:=by exact rfl) (N:look l u=some x:=by exact rfl):B:=a ⟨Bc h M N G⟩
def kX {ty:Nat} (G:Blk w b vs) (M:R (.returned (.agg vs.toArray)) w) (a:Hd (QW n (bodyPost prog fn R) .ret l w)->B:=by exact λa=>eK a.out) (h:fn.results = #[.cell t ty]:=by exact rfl) (N:AB tab ty=some (s,sz):=by exact rfl) (O:s.agg=true:=by exact rfl) (U:look l t=some (.pointer (some ⟨b,0,none⟩)):=by exact rfl) (V:vs.length=sz:=by exact rfl):B:=a ⟨TJ h Ac N O U G V M⟩
def kC {f:FuncId} {tys:Array TypeId} {v0:Value} {R:wD->Prop} (C:Calls P f vs.toArray w (λe w'=>e = .returned v0/\R w')) (k:∀v w1,aL (λe w'=>e = .returned v0/\R w') (some v) w1->LW P n ops Q rest ((d,v)::l) w1)
 (a:Hd (LW P n ops Q (⟨some d,.call ⟨.value (.func f),xs.toArray,tys⟩,ty,pos,after,none⟩::rest) l w)->B:=by exact λa=>eK a.out) (h:evs l xs=some vs:=by exact rfl) (G:BZ P f=true:=by kernel_rfl) (M:iE d n=true:=by exact rfl):B:=a ⟨cC h C k G M⟩
def kQ {f:FuncId} {tys:Array TypeId} (C:Calls P f vs.toArray w R) (k:∀v w1,aL R (some v) w1->LW P n ops Q rest ((d,v)::l) w1)
 (a:Hd (LW P n ops Q (⟨some d,.call ⟨.value (.func f),xs.toArray,tys⟩,ty,pos,after,none⟩::rest) l w)->B:=by exact λa=>eK a.out) (G:evs l xs=some vs:=by exact rfl) (M:BZ P f=true:=by kernel_rfl) (N:∀e w1,R e w1 -> ∃v,e = .returned v:=by exact λ_ _ h=>h.ret) (O:iE d n=true:=by exact rfl):B:=a ⟨cR M G C N O k⟩
end
abbrev pt (b:Nat):Value:=.pointer (some ⟨b,0,none⟩)
def Ae (h:p:=by assumption):p:=h
def Ab (h:p:=by omega):p:=h
def B7 (h:p:=by decide):p:=h
def AK (h:p:=by simp):p:=h
def aFh.{u} {α:Sort u} {p:α->Prop}:∀a,p a->p a:=λ_ h=>h
def LQ (h:Ext w w':=by repeat (first|exact Ext.refl _|assumption|refine Ext.alloc ?_ _|refine Ext.drew ?_|refine Ext.trans ?_ ‹_›)):Ext w w':=h
def AU (h:p:=by kernel_rfl):p:=h
def UD (A:Ending->wD->Prop) (B:List PanicEntry->wD->Prop):Ending->wD->Prop:=λe w=>A e w \/ ∃c,e = .panicked c/\B c w
section
variable {ops:Array Oper} {rest:List Oper} {pos:String} {after:Array Edge} {A:Ending->wD->Prop} {B:List PanicEntry->wD->Prop}
def AI {K:Act->wD->Prop} {c:List PanicEntry} (h:QW n Q (.panic c) l w):QW n (Exit.then K Q) (.panic c) l w:=by unfold QW at h ⊢;exact h
def AS {c:List PanicEntry} (h:QW n Q (.panic c) l w):QW n (Exit.inBlock i Q) (.panic c) l w:=by unfold QW at h ⊢;exact h
def AF {c:List PanicEntry} (h:R (.panicked c) w):QW n (bodyPost P fn R) (.panic c) l w:=by unfold QW;exact λ_ G=>⟨G.defers,h⟩
def Wv {t:TypeId} {d:Option Nat} (M:ev l x=some (.iface t v)) (h:QW n Q (.panic [{ v:=.iface t v,recovered:=false }]) l w):LW P n ops Q (⟨d,.panic x,ty,pos,after,none⟩::rest) l w:=by
 unfold LW;unfold QW at h;intro a G;unfold wpList;rw [AH (Bd rfl)];left;have e:(execOp a.eval ⟨d,.panic x,ty,pos,after,none⟩).run P w = .halt (.panic (.iface t v)) w:=by
  simp [execOp,G.ev M,Instr.panic,goPanic,ij,jP,gY]
 unfold jy;rw [e];exact h a G
def N0 (P:Program) (n:Nat) (l:Sl) (op:Op) (ty:TypeId) (w:wD) (A:Ending->wD->Prop) (B:List PanicEntry->wD->Prop):Prop:=
 ∀a dst pos after g (next:Act->wD->Prop) (Q:Exit->Act->wD->Prop),Env n l a->(∀v w',A (.returned v) w'->next (a.put dst v) w')->(∀c w',B c w'->Q (.panic c) a w')->(⟨dst,op,ty,pos,after,g⟩:Oper).wp P a w next Q
def AP {f:FuncId} {tys:Array TypeId} (hb:BZ P f=true) (hxs:evs l xs=some vs) (C:Calls P f vs.toArray w (UD A B))
 (hA:∀e w1,A e w1 -> ∃v,e = .returned v):N0 P n l (.call ⟨.value (.func f),xs.toArray,tys⟩) ty w A B:=λa dst pos after g next Q ha hn hp=>by
 have hargs:xs.map a.eval=vs:=ha.evs hxs;have e:(execOp a.eval ⟨dst,.call ⟨.value (.func f),xs.toArray,tys⟩,ty,pos,after,g⟩).run P w = .ok (.enter f vs.toArray) w:=by
  simp only [execOp,resolve,Act.eval,Deferred.ofValue,ij,iC,gY,invoke];rw [DH hb];simp [<-hargs]
 unfold jy;rw [e];refine i7 C λe w1 h=>?_
 rcases h with h|⟨c,rfl,h⟩
 . obtain ⟨v,rfl⟩:=hA e w1 h;exact hn v w1 h
 . exact hp c w1 h
def A3 {d:Nat} (M:N0 P n l op ty w A B) (O:iE d n=true) (k:∀v w1,A (.returned v) w1->LW P n ops Q rest ((d,v)::l) w1) (N:∀c w1,B c w1->QW n Q (.panic c) l w1) :
 LW P n ops Q (⟨some d,op,ty,pos,after,none⟩::rest) l w:=by
 unfold LW at k ⊢;unfold QW at N;intro a G;unfold wpList;rw [AH (Bd rfl)];left;unfold N0 at M;exact M a _ _ _ _ _ _ G (λv w1 h=>k v w1 h _ (G.put O v)) (λc w1 h=>N c w1 h a G)
def Qf {K d:Nat} {x r:Sc} (V:ops.toList[i]? = some ⟨some d,op,ty,pos,after,none⟩) (N:N0 P n l op ty w A B) (X:iE d n=true)
 (k:∀v w1,A (.returned v) w1->S w1/\TW P n ops Q S K x ((d,v)::l) w1) (O:∀c w1,B c w1->QW n Q (.panic c) l w1) (U:TW P n ops Q S K r l w):TW P n ops Q S K (.fork i x r) l w:=by
 unfold TW at k U ⊢;unfold QW at O;unfold N0 at N;intro a G;refine ⟨?_,U a G⟩;have M:ops[i]? = some ⟨some d,op,ty,pos,after,none⟩:=by simpa using V
 unfold wpOp;rw [M];simp only;rw [AH (Bd rfl)];left;exact N a _ _ _ _ _ _ G (λv w1 h=>⟨(k v w1 h).1,(k v w1 h).2 _ (G.put X v)⟩) (λc w1 h=>O c w1 h a G)
def LR (P:Program) (t:TypeId):Bool:=match P.underlying t with
 | some (.struct _)=>true
 | _=>false
def IQ {t:TypeId} (h:LR P t=true):∃G,P.underlying t=some (.struct G):=by
 unfold LR at h;split at h
 . exact ⟨_,Ae⟩
 . cases h
def UE {t:TypeId} (h:LR P t=true) (G:ev l x=some v):Br P n l S (.makeInterface t x) ty (.iface t v):=by
 obtain ⟨O,h⟩:=IQ h;unfold Br;intro a w M pos after g N _;simp [execOp,N.ev G,Instr.makeInterface,AD h,gY]
def Sq {t u:TypeId} (h:LR P t=true) (G:ev l x=some (.iface t v)):Br P n l S (.typeAssert x u t true) ty (.tuple #[v,.bool true]):=by
 obtain ⟨O,h⟩:=IQ h;unfold Br;intro a w M pos after g N _;simp [execOp,N.ev G,Instr.typeAssert,AD h,gY]
def EF {f:Fn} {cs:List Operand} {us:lV} (G:evs l xs=some us) (M:evs l cs=some vs):Br P n l S (.makeFunc f xs.toArray cs.toArray) ty (.func f us.toArray vs.toArray):=by
 unfold Br;intro a w N pos after g h _;have e:=h.evs G;have O:=h.evs M;simp [execOp,Instr.makeFunc,e,O]
variable {tab:Tab}
def JJ {f:Fn} {us vs:Array Value} (T:TabOk P tab) (G:AB tab t=some (.func,sz)) (M:ev l x=some (.func f us vs)):Br P n l S (.binOp .eql t x (.const .nilFunc) t') ty (.bool false):=by
 obtain ⟨a,b,c,N⟩:=(T _ _ _ G).under;unfold Br;intro h w O pos after g U _;have V:(eqGuard .eql t x (.const .nilFunc) (.func f us vs) .nilFunc).run P w = .ok () w:=by unfold eqGuard;simp
 have X:(Op.equal t (.func f us vs) .nilFunc).run P w = .ok false w:=by
  show (Op.equalIn (9999+1) t (.func f us vs) .nilFunc).run P w=_;unfold Op.equalIn;simp [AD N,gY]
 have Y:h.eval (.const .nilFunc) = .nilFunc:=rfl;simp [execOp,U.ev M,Y,V,X,binOp]
def A2 (T:TabOk P tab) (G:AB tab t=some (.ptr e,sz)) (M:ev l x=some (.pointer (some m))):Br P n l S (.binOp .eql t x (.const (.pointer none)) t') ty (.bool false):=by
 have N:=(T _ _ _ G).under;unfold Br;intro h w O pos after g U _;have V:(eqGuard .eql t x (.const (.pointer none)) (.pointer (some m)) (.pointer none)).run P w = .ok () w:=by unfold eqGuard;simp
 have X:(Op.equal t (.pointer (some m)) (.pointer none)).run P w = .ok false w:=by
  show (Op.equalIn (9999+1) t (.pointer (some m)) (.pointer none)).run P w=_;unfold Op.equalIn;simp [AD N,gY]
 have Y:h.eval (.const (.pointer none)) = .pointer none:=rfl;simp [execOp,U.ev M,Y,V,X,binOp]
def Ww {u:Nat} (T:TabOk P tab) (G:AB tab t=some (.iface,sz)) (M:ev l x=some (.iface u v)):Br P n l S (.binOp .eql t x (.const .nilIface) t') ty (.bool false):=by
 obtain ⟨a,N⟩:=(T _ _ _ G).under;unfold Br;intro h w O pos after g U _;have V:(eqGuard .eql t x (.const .nilIface) (.iface u v) .nilIface).run P w = .ok () w:=by unfold eqGuard;simp
 have X:(Op.equal t (.iface u v) .nilIface).run P w = .ok false w:=by
  show (Op.equalIn (9999+1) t (.iface u v) .nilIface).run P w=_;unfold Op.equalIn;simp [AD N,gY]
 have Y:h.eval (.const .nilIface) = .nilIface:=rfl;simp [execOp,U.ev M,Y,V,X,binOp]
def UF (T:TabOk P tab) (G:AB tab t=some (.iface,sz)) (M:ev l x=some .nilIface):Br P n l S (.binOp .eql t x (.const .nilIface) t') ty (.bool true):=by
 obtain ⟨a,N⟩:=(T _ _ _ G).under;unfold Br;intro h w O pos after g U _;have V:(eqGuard .eql t x (.const .nilIface) .nilIface .nilIface).run P w = .ok () w:=by unfold eqGuard;simp
 have X:(Op.equal t .nilIface .nilIface).run P w = .ok true w:=by
  show (Op.equalIn (9999+1) t .nilIface .nilIface).run P w=_;unfold Op.equalIn;simp [AD N,gY]
 have Y:h.eval (.const .nilIface) = .nilIface:=rfl;simp [execOp,U.ev M,Y,V,X,binOp]
end
def CZ (late:List Nat) (i:Nat):Bool:= !(late.contains i)
def O6 (ops:Array Oper) (late free0:List Nat) (i:Nat):Prop:= ∀(listed:Array Bool) (j:Nat) (o:Oper),DC ops listed->(∀k∈free0,listed.getD k false=true)->listed.getD j true=false->CZ late j=false->ops[j]? = some o->(∀e∈o.after,jh .any e=true->listed.getD e.on false=true)->listed.getD i false=true
def O7 (ops:Array Oper) (late free0:List Nat) (j0:Nat):Bool:=((jj ops.size).all λi=> !(CZ late i)||(List.range' (i+1) (ops.size-(i+1))).any λm=>(jv m j0||CZ late m)&&JH ops m i)&&late.all λj=>free0.contains j||(jv j j0||JH ops j j0)
def L8 {late free0:List Nat} (h:O7 a late free0 t=true) (hi:i<a.size) (hE:CZ late i=true):O6 a late free0 i:=by
 simp only [O7,gR,iN,kp] at h;obtain ⟨h1,h2⟩:=h;intro G j o aa hF V hj ho O;have af:j∈late:=by
  unfold CZ at hj;simpa using hj
 have M:=h2 j af;have M:(jv j t||JH a j t)=true:=by
  rw [jc] at M;rcases M with N|N
  . exfalso;have U:=hF j (by simpa using N);rcases it j G.size with h'|h'
    . simp [h'] at U V;rw [U] at V;cases V
    . simp [iQ h'] at U
  . exact N
 simp only [jc] at M;have X:∀o0,a[t]? = some o0 -> ∀e∈o0.after,jh .any e=true->G.getD e.on false=true:=by
  intro o0 Y;rcases M with M|M
  . have ag:=iM M;subst ag;rw [ho] at Y;obtain rfl:=gZ Y;exact O
  . obtain ⟨oj,e',ab,ah,ai,ac⟩:=EC M;rw [ho] at ab;obtain rfl:=gZ ab;have U:=O e' ah ai;rw [ac] at U;exact aa t o0 Y U
 have key:∀d i,a.size-i<=d->i<a.size->CZ late i=true->G.getD i false=true:=by
  intro d
  induction d with
  | zero=>intro i hd hi;omega
  | succ d ih=>
   intro i hd hi hE;have hg:=h1 i hi;rw [hE] at hg;simp only [lU,Bool.false_or,ke,kK,gR,jc] at hg;obtain ⟨m,hm,N,hw⟩:=hg;obtain ⟨om,e,ad,he,hb,ae⟩:=EC hw;rcases N with N|N
   . have aj:=iM N;subst aj;have:=X om ad e he hb;rwa [ae] at this
   . have U:=ih m Ab Ab N;have:=aa m om ad U e he hb;rwa [ae] at this
 exact key _ i (ip _) hi hE
section
variable {ops:Array Oper} {late free0:List Nat} {K:Nat}
def KD (P:Program) (ops:Array Oper) (Q:Exit->Act->wD->Prop) (S S2:wD->Prop) (late:List Nat) (K:Nat):Nat->Array Bool->Act->wD->Prop
 | 0,listed,a,w=>iH .any ops listed=[]/\Q .normal a w
 | fuel+1,listed,a,w=>
  (iH .any ops listed=[]->Q .normal a w) /\
  ∀i∈iH .any ops listed,wpOp P ops Q i (λa' w'=>(CZ late i=true->S w')/\(i<K->S2 w')/\KD P ops Q S S2 late K fuel (listed.setIfInBounds i true) a' w') a w
def L9:∀(G:Nat) (M:Array Bool) (a:Act) (w:wD),KD P ops Q S S2 late K G M a w->wpAny P .any ops Q G M a w
 | 0,_,_,_,h=>h
 | G+1,_,_,_,h=>⟨h.1,λi N=>wpOp_mono (λO w' U=>L9 G _ O w' U.2.2) (h.2 i N)⟩
def NL {G:Array Bool} {k:Nat} (h:G.getD k false=true):(G.setIfInBounds j true).getD k false=true:=by
 by_cases M:j=k
 . subst M;rcases it j G.size with N|N
   . simp [N]
   . simp [iQ N] at h
 . rw [getD_set_ne false M];exact h
def JK {T:wD->Prop} (hi:ops[i]? = some oi) (ai:∀w,S w->S2 w) (hT:(CZ late i=true/\O6 ops late free0 i/\T=S)\/(CZ late i=false/\Ej ops K i/\T=S2)) (ab:∀(j:Nat) (o:Oper) cs b,ops[j]? = some o->o.op≠.select cs b)
 (hQ:∀c a w,Q (.panic c) (a.put oi.dst v) w->Q (.panic c) a w) :
 ∀(M:Nat) (G:Array Bool) (a:Act) (w:wD),DC ops G->(CZ late i=true -> ∀k∈free0,G.getD k false=true) ->
  (∀j Z,ops[j]? = some Z->j≠i->G.getD j true=false->(∀e∈Z.after,jh .any e=true->e.on≠i)->oi.apart ops Z=true) ->
  i∈iH .any ops G->YieldsIf P ops T oi v a->T w ->
  KD P ops Q S S2 late K M (G.setIfInBounds i true) (a.put oi.dst v) w->KD P ops Q S S2 late K (M+1) G a w:=by
 have af:∀w,T w->CZ late i=true->S w:=λw h he=>by
  rcases hT with ⟨-,-,rfl⟩|⟨h0,-⟩
  . exact h
  . rw [h0] at he;cases he
 have ac:∀w,T w->S2 w:=λw h=>by
  rcases hT with ⟨-,-,rfl⟩|⟨-,-,rfl⟩
  . exact ai w h
  . exact h
 intro M
 induction M with
 | zero=>
  intro G a w _ _ _ hr hy hS H;refine ⟨λh=>(by rw [h] at hr;cases hr),λj hj=>?_⟩;by_cases N:j=i
  . subst N;exact hy.wpOp hi hS ⟨af w hS,λ_=>ac w hS,H⟩
  . have:=ready_mono hj N;rw [H.1] at this;cases this
 | succ M ih=>
  intro G a w ad hF U hr hy hS H;refine ⟨λh=>(by rw [h] at hr;cases hr),λj hj=>?_⟩;by_cases N:j=i
  . subst N;exact hy.wpOp hi hS ⟨af w hS,λ_=>ac w hS,H⟩
  . have h1:=H.2 j (ready_mono hj N);obtain ⟨V,Z,X,Y⟩:=mem_ready.1 hj;have O:¬G.getD i false=true:=λhc=>by
     have h0:=(mem_ready.1 hr).1;rcases it i G.size with h'|h'
     . simp [h'] at h0 hc;rw [h0] at hc;cases hc
     . simp [iQ h'] at hc
    have aj:∀w',(CZ late j=true->S w')->(j<K->S2 w')->T w':=λw' h' h2=>by
     rcases hT with ⟨ak,ae,rfl⟩|⟨-,ae,rfl⟩
     . cases hej:CZ late j
       . exact absurd (ae G j Z ad (hF ak) V hej X Y) O
       . exact h' hej
     . rcases it j K with h|h
       . exact h2 h
       . exact absurd (ae G j Z ad h X Y) O
    have ag:∀e∈Z.after,jh .any e=true->e.on≠i:=λe he hb al=>O (al▸Y e he hb)
    have h2:=wpOp_putIf X (U j Z X N V ag) (λcs b=>ab i oi cs b hi) (λcs b=>ab j Z cs b X) hQ hy h1;have aa:∀k ok,ops[k]? = some ok->k≠i->(G.setIfInBounds j true).getD k true=false ->
     (∀e∈ok.after,jh .any e=true->e.on≠i)->oi.apart ops ok=true:=λk ok hk am O an=>by
     refine U k ok hk am ?_ an;by_cases ah:j=k
     . subst ah;exact V
     . rw [getD_set_ne true ah] at O;exact O
    refine wpOp_mono (λa' w' h3=>⟨h3.2.1,h3.2.2.1,ih (G.setIfInBounds j true) a' w' (ad.set hj) (λhE k hk=>NL (hF hE k hk)) aa (ready_mono hr (lw N)) h3.1 (aj w' h3.2.1 h3.2.2.1) ?_⟩) h2;rw [kF _ _ N];exact h3.2.2.2
end
inductive ScE where
 | done
 | pure (i:Nat) (r:ScE)
 | free (i:Nat) (r:ScE)
 | put (i:Nat) (r:ScE)
 | tail (k:Nat)
def ScE.ok (ops:Array Oper) (late free0:List Nat) (K:Nat):ScE->Nat->Array Bool->Bool
 | .done,_,listed=>(iH .any ops listed).isEmpty
 | .pure i r,f+1,listed=>(free0.all λk=>listed.getD k false)&&CZ late i&&(iH .any ops listed).contains i&&Region.free .any ops listed i&&ScE.ok ops late free0 K r f (listed.setIfInBounds i true)
 | .free i r,f+1,listed=> !(CZ late i)&&iE i K&&(iH .any ops listed).contains i&&Region.free .any ops listed i&&ScE.ok ops late free0 K r f (listed.setIfInBounds i true)
 | .put i r,f+1,listed=> !(CZ late i)&&(iH .any ops listed==[i])&&ScE.ok ops late free0 K r f (listed.setIfInBounds i true)
 | .tail k,f,listed=>jr K k&&jv (f+k) ops.size&&(List.range' k f).all (λj=> !(CZ late j))&&Fi ops f k listed
 | _,_,_=>false
def HTE (P:Program) (ops:Array Oper) (Q:Exit->Act->wD->Prop) (S S2:wD->Prop):ScE->Act->wD->Prop
 | .done,a,w=>Q .normal a w
 | .pure i r,a,w=>S w /\ ∃o v,ops.toList[i]? = some o/\YieldsIf P ops S o v a/\HTE P ops Q S S2 r (a.put o.dst v) w
 | .free i r,a,w=>S2 w /\ ∃o v,ops.toList[i]? = some o/\YieldsIf P ops S2 o v a/\HTE P ops Q S S2 r (a.put o.dst v) w
 | .put i r,a,w=>wpOp P ops Q i (λa' w'=>S2 w'/\HTE P ops Q S S2 r a' w') a w
 | .tail k,a,w=>wpList P ops Q (ops.toList.drop k) a w
def I6 {P:Program} {ops:Array Oper} {Q:Exit->Act->wD->Prop} {S S2:wD->Prop} {late:List Nat} {K:Nat}:∀(f k:Nat) (G:Array Bool) (a:Act) (w:wD),K<=k->f+k=ops.size->(∀j,k<=j->j<k+f->CZ late j=false)->Fi ops f k G=true->wpList P ops Q (ops.toList.drop k) a w->KD P ops Q S S2 late K f G a w
 | 0,k,G,a,w,Z,hf,O,M,h=>by
  have:ops.toList.drop k=[]:=jd (by simp;omega);rw [this] at h;exact ⟨by simpa [Fi] using M,h⟩
 | f+1,k,G,a,w,Z,hf,O,M,h=>by
  simp only [Fi,gR,beq_iff_eq] at M;have U:k<ops.toList.length:=by simp;omega
  rw [iB U] at h;refine ⟨λe=>absurd (M.1.symm.trans e) AK,λi V=>?_⟩;rw [M.1] at V;simp only [iu] at V;subst V;have Y:=O i (ip _) Ab;have N:∀j,i+1<=j->j<i+1+f->CZ late j=false:=λj h1 h2=>O j Ab Ab
  have ho:ops[i]? = some ops.toList[i]:=by simp
  unfold wpList at h;unfold wpOp;rw [ho];simp only;split
  . rename_i X;rw [AH X] at h;rcases h with h|h
    . exact gP (Oper.wp_mono (λa' w' h'=>⟨λe=>(by rw [Y] at e;cases e),λe=>by omega,I6 f (i+1) _ a' w' Ab Ab N M.2 h'⟩) h)
    . exact gQ h
  . rename_i X;rw [At X] at h;exact ⟨λe=>(by rw [Y] at e;cases e),λe=>by omega,I6 f (i+1) _ _ w Ab Ab N M.2 h⟩
def HTE.any {P:Program} {ops:Array Oper} {Q:Exit->Act->wD->Prop} {S S2:wD->Prop} {late free0:List Nat} {K:Nat} (V:∀w,S w->S2 w) (O:∀i,i<K->Ej ops K i) (hs:Region.noSelect ops=true) (X:∀i,i<ops.size->CZ late i=true->O6 ops late free0 i) (hQ:Df Q) :
 ∀(s:ScE) (f:Nat) (G:Array Bool) (a:Act) (w:wD),DC ops G->HTE P ops Q S S2 s a w->ScE.ok ops late free0 K s f G=true->KD P ops Q S S2 late K f G a w
 | .done,f,G,a,w,U,h,M=>by
  have Y:iH .any ops G=[]:=by simpa [ScE.ok] using M
  cases f with
  | zero=>exact ⟨Y,h⟩
  | succ f=>exact ⟨λ_=>h,by rw [Y];simp⟩
 | .tail k,f,G,a,w,U,h,M=>by
  simp only [ScE.ok,gR,iN,kK] at M;exact I6 f k G a w (iA M.1.1.1) (iM M.1.1.2) (λj h1 h2=>by simpa using M.1.2 j ⟨h1,h2⟩) M.2 h
 | .pure i r,0,G,a,w,U,h,M=>by simp [ScE.ok] at M
 | .pure i r,f+1,G,a,w,U,h,M=>by
  simp only [ScE.ok,gR] at M;obtain ⟨hS,o,v,ho,hy,Y⟩:=h;have Z:ops[i]? = some o:=by simpa using ho
  have aa:i<ops.size:=(Array.getElem?_eq_some_iff.1 Z).1;have N:i∈iH .any ops G:=by simpa using M.1.1.2
  exact JK (T:=S) (free0:=free0) Z V (gP ⟨M.1.1.1.2,X i aa M.1.1.1.2,rfl⟩) (jV hs) (λc a w=>hQ o.dst v c a w) f G a w U (λ_ k ab=>iN.1 M.1.1.1.1 k ab) (kD Z M.1.2) N hy hS
   (HTE.any V O hs X hQ r f _ _ w (U.set N) Y M.2)
 | .free i r,0,G,a,w,U,h,M=>by simp [ScE.ok] at M
 | .free i r,f+1,G,a,w,U,h,M=>by
  simp only [ScE.ok,gR,kJ] at M;obtain ⟨hS,o,v,ho,hy,Y⟩:=h;have Z:ops[i]? = some o:=by simpa using ho
  have N:i∈iH .any ops G:=by simpa using M.1.1.2
  have ac:=iA M.1.1.1.2;exact JK (T:=S2) (free0:=free0) Z V (gQ ⟨M.1.1.1.1,O i ac,rfl⟩) (jV hs) (λc a w=>hQ o.dst v c a w) f G a w U (λe=>(by rw [M.1.1.1.1] at e;cases e)) (kD Z M.1.2) N hy hS
   (HTE.any V O hs X hQ r f _ _ w (U.set N) Y M.2)
 | .put i r,0,G,a,w,U,h,M=>by simp [ScE.ok] at M
 | .put i r,f+1,G,a,w,U,h,M=>by
  simp only [ScE.ok,gR,kJ,beq_iff_eq] at M;obtain ⟨⟨h1,h2⟩,h3⟩:=M;refine ⟨λe=>(by rw [h2] at e;cases e),λj hj=>?_⟩;rw [h2] at hj;simp only [iu] at hj;subst hj;have N:j∈iH .any ops G:=by rw [h2];simp
  exact wpOp_mono (λa' w' h'=>⟨λe=>(by rw [h1] at e;cases e),λ_=>h'.1,HTE.any V O hs X hQ r f _ a' w' (U.set N) h'.2 h3⟩) h
def YP (P:Program) (n:Nat) (ops:Array Oper) (Q:Exit->Act->wD->Prop) (S S2:wD->Prop) (s:ScE) (l:Sl) (w:wD):Prop:= ∀a,Env n l a->HTE P ops Q S S2 s a w
section draws
variable {P:Program} {n:Nat} {ops:Array Oper} {Q:Exit->Act->wD->Prop} {S S2:wD->Prop} {l:Sl} {w:wD}
 {d i:Nat} {ty:TypeId} {pos:String} {after:Array Edge} {r:ScE}
def E6 (S S2:wD->Prop) (late free0:List Nat) (j0 K:Nat) (s:ScE) (V:∀w,S w->S2 w) (hm:P.follows .mixedOrders=true) (N:(Region.noSelect G.toArray&&(jr G.length K||I4 G.toArray K)&&O7 G.toArray late free0 j0&&ScE.ok G.toArray late free0 K s G.length (jt G.length false))=true) (hQ:Df Q)
 (h:∀w1,Ext w w1->w1.heap=w.heap->YP P n G.toArray Q S S2 s l w1):CW P n (.region t G.toArray true) Q l w:=by
 unfold CW;intro a ha;simp only [gR] at N;have h2:=h w.drew (Ext.refl w).drew rfl;have X:DC G.toArray (jt G.length false):=λk o _ M=>by
  exfalso;rcases it k G.length with Y|Y
  . simp [Y] at M
  . simp [iQ,Y] at M
 have O:∀i,i<K->Ej G.toArray K i:=by
  by_cases Z:K<G.toArray.size
  . have M:=N.1.1.2;simp only [jc] at M;rcases M with M|M
    . have:=iA M;simp at Z;omega
    . exact DT M Z
  . intro i hi U j o _ hj ho _;have aa:j<G.toArray.size:=(Array.getElem?_eq_some_iff.1 ho).1;omega
 refine wp_region_any hm (L9 (S:=S) (S2:=S2) (late:=late) (K:=K) _ _ _ _ ?_);have:=HTE.any V O N.1.1.1 (λi hi hE=>L8 N.1.2 hi hE) hQ s G.length (jt G.length false) a w.drew X (h2 a ha) N.2;simpa using this
def DA {k:Nat} (M:L4 k ops.toList=some G) (h:LW P n ops Q G l w):YP P n ops Q S S2 (.tail k) l w:=by
 unfold LW at h;intro a N;show wpList P ops Q (ops.toList.drop k) a w;rw [GJ M];exact h a N
def Am (h:S w) (N:ops.toList[i]? = some ⟨some d,op,ty,pos,after,none⟩) (G:Br P n l S op ty v) (O:iE d n=true) (k:YP P n ops Q S S2 r ((d,v)::l) w) :
 YP P n ops Q S S2 (.pure i r) l w:=by
 unfold Br at G;exact λa M=>⟨h,_,v,N,gP ⟨rfl,λw h=>G a w _ _ _ _ M h⟩,k _ (M.put O v)⟩
def Bp (h:S2 w) (N:ops.toList[i]? = some ⟨some d,op,ty,pos,after,none⟩) (G:Br P n l S2 op ty v) (O:iE d n=true) (k:YP P n ops Q S S2 r ((d,v)::l) w) :
 YP P n ops Q S S2 (.free i r) l w:=by
 unfold Br at G;exact λa M=>⟨h,_,v,N,gP ⟨rfl,λw h=>G a w _ _ _ _ M h⟩,k _ (M.put O v)⟩
def DB (V:ops.toList[i]? = some ⟨none,op,ty,pos,after,none⟩) (O:BE P n l op ty w N)
 (k:∀v w1,N v w1->S2 w1/\YP P n ops Q S S2 r l w1):YP P n ops Q S S2 (.put i r) l w:=λa G=>by
 unfold BE at O;have M:ops[i]? = some ⟨none,op,ty,pos,after,none⟩:=by simpa using V
 show wpOp P ops Q i _ a w;unfold wpOp;rw [M];simp only;rw [AH (Bd rfl)];left;exact O a _ _ _ _ _ _ G (λv w1 U=>⟨(k _ w1 U).1,(k _ w1 U).2 _ G⟩) (λw1 h=>⟨(k _ w1 h).1,(k _ w1 h).2 _ G⟩)
end draws
attribute [local irreducible] Go.Calls
def KE (x:Int):Int:=IntKind.i64.wrap x
def NM (op:BinOp) (x y:Int):Int:=match op with
 | .and=>KE (BitVec.ofInt 64 x &&& BitVec.ofInt 64 y).toNat
 | .or=>KE (BitVec.ofInt 64 x ||| BitVec.ofInt 64 y).toNat
 | _=>KE (BitVec.ofInt 64 x ^^^ BitVec.ofInt 64 y).toNat
section
variable {y:Operand} {a b:Int}
def YQ (G:ev l x=some (.int .i64 a)) (M:ev l y=some (.int .i64 b)):Br P n l S (.binOp .and t x y t') ty (.int .i64 (NM .and a b)):=by
 unfold Br;intro d w N pos after g h _;simp only [execOp,h.ev G,h.ev M,ij,Bv,gY,binOp,Op.intBits];rfl
def bE (G:ev l x=some (.int .i64 a)) (M:ev l y=some (.int .i64 b)):Br P n l S (.binOp .or t x y t') ty (.int .i64 (NM .or a b)):=by
 unfold Br;intro d w N pos after g h _;simp only [execOp,h.ev G,h.ev M,ij,Bv,gY,binOp,Op.intBits];rfl
def TN (G:ev l x=some (.int .i64 a)) (M:ev l y=some (.int .i64 b)):Br P n l S (.binOp .xor t x y t') ty (.int .i64 (NM .xor a b)):=by
 unfold Br;intro d w N pos after g h _;simp only [execOp,h.ev G,h.ev M,ij,Bv,gY,binOp,Op.intBits];rfl
def JL (h:ev l x=some (.int .i64 a)) (G:ev l y=some (.int .i64 b)):Br P n l S (.binOp .add t x y t') ty (.int .i64 (KE (a+b))):=LN h G rfl
def Qg (h:ev l x=some (.int .i64 a)) (G:ev l y=some (.int .i64 b)):Br P n l S (.binOp .sub t x y t') ty (.int .i64 (KE (a-b))):=AL h G rfl
def Wx (h:ev l x=some (.int .i64 a)) (G:ev l y=some (.int .i64 b)):Br P n l S (.binOp .mul t x y t') ty (.int .i64 (KE (a*b))):=Ik h G rfl
def Wy (h:ev l x=some (.int .i64 a)) (G:ev l y=some (.int .i64 b)) (M:b≠0):Br P n l S (.binOp .quo t x y t') ty (.int .i64 (KE (a.tdiv b))):=Il h G M rfl
def Wz (h:ev l x=some (.int .i64 a)) (G:ev l y=some (.int .i64 b)) (M:b≠0):Br P n l S (.binOp .rem t x y t') ty (.int .i64 (a.tmod b)):=LP h G M rfl
def Ma (h:ev l x=some (.int .i64 a)):Br P n l S (.unOp .neg t x) ty (.int .i64 (KE (0-a))):=by
 unfold Br;intro d w G pos after g M _;simp [execOp,M.ev h,Op.unary,Op.intArith,KE]
end
def Wl (b:Bool):Int:=if b then 1 else 0
def UG (k x y:Int):Int×Int:=if y=0 then (0,11) else if k=11 then (KE (x.tdiv y),0) else (x.tmod y,0)
def EG (k x y:Int):Int×Int:=
 if k=8 then (KE (x+y),0) else if k=9 then (KE (x-y),0) else if k=10 then (KE (x*y),0) else if k=11\/k=12 then UG k x y
 else if k=13 then (NM .and x y,0) else if k=14 then (NM .or x y,0) else if k=15 then (NM .xor x y,0)
 else if k=16 then (Wl (decide (x=y)),0) else if k=17 then (Wl (decide (x≠y)),0) else if k=18 then (Wl (decide (x<y)),0)
 else if k=19 then (Wl (decide (x<=y)),0) else if k=20 then (Wl (decide (y<x)),0) else if k=21 then (Wl (decide (y<=x)),0)
 else if k=22 then (Wl (decide (x≠0/\y≠0)),0) else if k=23 then (Wl (decide (x≠0\/y≠0)),0) else (0,7)
def EH (k x:Int):Int×Int:=if k=6 then (KE (0-x),0) else if k=7 then (Wl (decide (x=0)),0) else (0,7)
def C0 (b:Bool) (w:wD):Calls prog 244 #[.bool b] w λe w'=>e = .returned (.int .i64 (Wl b))/\w=w':=by
 cases b
 . refine Ad func244 ntmps244 rfl rfl ?_;refine kR ?_;exact ⟨rfl,rfl⟩
 . refine Ad func244 ntmps244 rfl rfl ?_;refine kR ?_;exact ⟨rfl,rfl⟩
def Qh (k x y:Int) (w:wD):Calls prog 245 #[.int .u8 k,.int .i64 x,.int .i64 y] w λe w'=>e = .returned (.tuple #[.int .i64 (UG k x y).1,.int .i64 (UG k x y).2])/\w=w':=by
 refine Ad func245 ntmps245 rfl rfl ?_
 focus
  refine eK ?_;refine Ay rfl (λh=>?_) (λh=>?_);refine kT ?_;rotate_left;refine eK ?_;refine Ay rfl (λG=>?_) (λG=>?_);refine eK ?_;refine C1 (Wy rfl rfl Ae) (kT ?_);rotate_left;refine eK ?_;refine C1 (Wz rfl rfl Ae) (kT ?_);rotate_left
 all_goals (refine ⟨?_,rfl⟩;unfold UG;simp [*])
def O8 (k x:Int) (w:wD):Calls prog 239 #[.int .u8 k,.int .i64 x] w λe w'=>e = .returned (.tuple #[.int .i64 (EH k x).1,.int .i64 (EH k x).2])/\w=w':=by
 refine Ad func239 ntmps239 rfl rfl ?_
 focus
  refine eK ?_;refine Ay rfl (λh=>?_) (λh=>?_);refine eK ?_;refine C1 (Ma rfl) (kT ?_);rotate_left;refine eK ?_;refine Ay rfl (λG=>?_) (λG=>?_);refine kC (C0 _ _) ?_;rintro _ M ⟨⟨⟩,rfl⟩;refine kT ?_;rotate_left;refine kT ?_;rotate_left
 all_goals (refine ⟨?_,rfl⟩;unfold EH;simp [*])
set_option maxHeartbeats 8000000 in
def TO (k x y:Int) (w:wD):Calls prog 240 #[.int .u8 k,.int .i64 x,.int .i64 y] w λe w'=>e = .returned (.tuple #[.int .i64 (EG k x y).1,.int .i64 (EG k x y).2])/\w=w':=by
 refine Ad func240 ntmps240 rfl rfl ?_
 focus
  refine eK ?_;refine Ay rfl (λc1=>?_) (λc1=>?_);refine eK ?_;refine C1 (JL rfl rfl) (kT ?_);rotate_left;refine eK ?_;refine Ay rfl (λc2=>?_) (λc2=>?_);refine eK ?_;refine C1 (Qg rfl rfl) (kT ?_);rotate_left;refine eK ?_;refine Ay rfl (λc3=>?_) (λc3=>?_);refine eK ?_;refine C1 (Wx rfl rfl) (kT ?_);rotate_left;refine eK ?_;refine Ay rfl (λc4=>?_) (λc4=>?_);refine kC (Qh _ _ _ _) ?_;rintro _ w5 ⟨⟨⟩,rfl⟩;refine kT ?_;rotate_left;refine eK ?_;refine Ay rfl (λc6=>?_) (λc6=>?_);refine kC (Qh _ _ _ _) ?_;rintro _ w7 ⟨⟨⟩,rfl⟩;refine kT ?_;rotate_left;refine eK ?_;refine Ay rfl (λc8=>?_) (λc8=>?_);refine eK ?_;refine C1 (YQ rfl rfl) (kT ?_);rotate_left;refine eK ?_;refine Ay rfl (λc9=>?_) (λc9=>?_);refine eK ?_;refine C1 (bE rfl rfl) (kT ?_);rotate_left;refine eK ?_;refine Ay rfl (λh=>?_) (λh=>?_);refine eK ?_;refine C1 (TN rfl rfl) (kT ?_);rotate_left;refine eK ?_;refine Ay rfl (λG=>?_) (λG=>?_);refine kC (C0 _ _) ?_;rintro _ ab ⟨⟨⟩,rfl⟩;refine kT ?_;rotate_left;refine eK ?_;refine Ay rfl (λM=>?_) (λM=>?_);refine kC (C0 _ _) ?_;rintro _ ac ⟨⟨⟩,rfl⟩;refine kT ?_;rotate_left;refine eK ?_;refine Ay rfl (λN=>?_) (λN=>?_);refine kC (C0 _ _) ?_;rintro _ ad ⟨⟨⟩,rfl⟩;refine kT ?_;rotate_left;refine eK ?_;refine Ay rfl (λO=>?_) (λO=>?_);refine kC (C0 _ _) ?_;rintro _ ae ⟨⟨⟩,rfl⟩;refine kT ?_;rotate_left;refine eK ?_;refine Ay rfl (λU=>?_) (λU=>?_);refine kC (C0 _ _) ?_;rintro _ af ⟨⟨⟩,rfl⟩;refine kT ?_;rotate_left;refine eK ?_;refine Ay rfl (λV=>?_) (λV=>?_);refine kC (C0 _ _) ?_;rintro _ ag ⟨⟨⟩,rfl⟩;refine kT ?_;rotate_left;refine eK ?_;refine Ay rfl (λX=>?_) (λX=>?_);refine eK ?_;refine B0 rfl rfl rfl (λY=>?_) (λY=>?_);refine kC (C0 _ _) ?_;rintro _ ah ⟨⟨⟩,rfl⟩;refine kT ?_;rotate_left;refine kC (C0 _ _) ?_;rintro _ ai ⟨⟨⟩,rfl⟩;refine kT ?_;rotate_left;refine eK ?_;refine Ay rfl (λZ=>?_) (λZ=>?_)
  refine eK ?_;refine B0 rfl rfl rfl (λaa=>?_) (λaa=>?_);refine kC (C0 _ _) ?_;rintro _ aj ⟨⟨⟩,rfl⟩;refine kT ?_;rotate_left;refine kC (C0 _ _) ?_;rintro _ ak ⟨⟨⟩,rfl⟩;refine kT ?_;rotate_left;refine kT ?_;rotate_left
 all_goals (refine ⟨?_,rfl⟩;unfold EG;simp [*])
structure VD where
 name:lB
 kind:Int
 len:Int
structure PD where
 name:lB
 params:List VD
 body:Nd
structure PG where
 vars:List VD
 procs:List PD
 main:Nd
def Ea (l:List VD) (s:lB):Option VD:=l.reverse.find? (λv=>decide (v.name=s))
def Fd (l:List VD) (s:lB):Int:=if (Ea l s).isSome then 22 else 0
def Ek (l:List VD) (s:lB) (k:Int):Int:=match Ea l s with
 | none=>6
 | some v=>if v.kind=k then 0 else 7
def Cg (ps:List PD) (s:lB):Option Nat:=ps.findIdx? (λp=>decide (p.name=s))
def Qi (ps:List PD) (s:lB) (m:Nat):Int:=match Cg ps s with
 | none=>6
 | some i=>if m=((ps[i]?.map λp=>p.params.length).getD 0) then 0 else 7
def CE (ps:List PD) (v:List VD) (k:Int) (s:lB) (m:Nat):Int:=
 if k=2 then Ek v s 1 else if k=3 then Ek v s 2 else if k=4\/k=5\/k=44\/k=45 then Ek v s 3
 else if k=54\/k=55 then Fd v s else if k=50\/k=51 then Qi ps s m else 0
def Qj (ps:List PD) (v:List VD) (s:lB) (m i:Nat) (x:lB):Int:=match Ea v x with
 | none=>6
 | some d=>match (Cg ps s).bind (ps[·]?) with
  | none=>0
  | some p=>if m≠p.params.length then 0 else match p.params[i]? with
   | none=>0
   | some q=>if d.kind≠q.kind\/d.len≠q.len then 7 else 0
def C2 (k:Int) (s:lB) (i:Nat) (v:List VD):List VD:=
 if k=54/\i=1 then v++[⟨s,1,0⟩] else if k=55/\i=0 then v++[⟨s,3,0⟩] else v
def O9 (e:Int):Nat:=if e=0 then 0 else 1
def FV (ps:List PD) (v:List VD) (s:lB) (m:Nat):Nat->List Nd->Nat
 | _,[]=>0
 | i,t::r=>O9 (Qj ps v s m i t.name)+FV ps v s m (i+1) r
mutual
def Nd.flt (ps:List PD) (v:List VD):Nd->Nat
 | .mk k _ s l=>O9 (CE ps v k s l.length)+if k=50\/k=51 then FV ps v s l.length 0 l else CS ps v k s 0 l
def CS (ps:List PD) (v:List VD) (k:Int) (s:lB):Nat->List Nd->Nat
 | _,[]=>0
 | i,t::r=>t.flt ps (C2 k s i v)+CS ps v k s (i+1) r
end
def Cu:List VD->List VD->Nat
 | _,[]=>0
 | acc,v::r=>O9 (Fd acc v.name)+Cu (acc++[v]) r
def DR (ps:List PD):Nat->List PD->Nat
 | _,[]=>0
 | i,p::r=>(if (Cg ps p.name).getD i<i then 1 else 0)+Cu [] p.params+p.body.flt ps p.params+DR ps (i+1) r
def PG.flt (g:PG):Nat:=Cu [] g.vars+DR g.procs 0 g.procs+g.main.flt g.procs g.vars
def I7 (c:UInt8):Bool:=decide (97<=c.toNat)&&decide (c.toNat<=122)
def JM (c:UInt8):Bool:=decide (48<=c.toNat)&&decide (c.toNat<=57)
def La (c:UInt8):Bool:=decide (c.toNat=32)||decide (c.toNat=9)||decide (c.toNat=13)||decide (c.toNat=10)
def JN (c:UInt8):Bool:=I7 c||JM c
def Qk (c:UInt8):Bool:= !decide (c.toNat=10)
def I8 (p:UInt8->Bool) (s:lB):Nat:=(s.takeWhile p).length
def keywords:List lB:=[[105,110,116],[97,114,114,97,121],[115,116,97,99,107],[112,114,111,99],[109,97,105,110],[112,117,115,104],[112,111,112],[114,101,97,100],[117,110,114,101,97,100],[119,114,105,116,101],[117,110,119,114,105,116,101],[99,97,108,108],[117,110,99,97,108,108],[105,102],[101,108,115,101],[102,105],[102,114,111,109],[108,111,111,112],[117,110,116,105,108],[108,111,99,97,108],[100,101,108,111,99,97,108],[116,111,112],[115,105,122,101]]
def FW (s:lB):Bool:=keywords.contains s
def pairs:List lB:=[[58,61],[43,61],[45,61],[94,61],[61,61],[33,61],[60,61],[62,61],[38,38],[124,124]]
def singles:lB:=[43,45,42,47,37,38,124,94,33,61,60,62,40,41,123,125,91,93,59,44]
def LS (s:lB):Nat:=
 if List.isPrefixOf [60,61,62] s then 3 else if pairs.contains (s.take 2) then 2 else if (s.head?.map (singles.contains ·)).getD false then 1 else 0
def E7:lB->Nat×Nat
 | []=>(3,0)
 | c::r=>if I7 c then (1,I8 JN (c::r)) else if JM c then (2,I8 JM (c::r)) else if La c then (4,I8 La (c::r)) else if c=35 then (5,I8 Qk (c::r)) else (3,LS (c::r))
def Cv (s:lB):Bool:= !s.isEmpty&&decide (s.length<=16)&&((E7 s).1==1)&&((E7 s).2==s.length) && !FW s
def named (n:Int) (s:lB):Bool:=n==0&&Cv s
def plain (n:Int) (s:lB):Bool:=n==0&&s.isEmpty
def Nd.isExpr:Nd->Bool
 | .mk k n s l=>
  if k=1 then decide (0<=n)&&s.isEmpty&&l.isEmpty
  else if k=2\/k=4\/k=5 then named n s&&l.isEmpty
  else if k=3 then named n s&&match l with|[x]=>x.isExpr|_=>false
  else if k=6\/k=7 then plain n s&&match l with|[x]=>x.isExpr|_=>false
  else if 8<=k/\k<=23 then plain n s&&match l with|[x,y]=>x.isExpr&&y.isExpr|_=>false
  else false
def Nd.isPlace (t:Nd):Bool:=(t.kind==2||t.kind==3)&&t.isExpr
def Nd.isVar (t:Nd):Bool:=t.kind==2&&t.isExpr
mutual
def Nd.isStmt:Nd->Bool
 | .mk k n s l=>
  if k=40\/k=41\/k=42\/k=56 then plain n s&&match l with|[x,y]=>x.isPlace&&y.isExpr|_=>false
  else if k=43 then plain n s&&match l with|[x,y]=>x.isPlace&&y.isPlace|_=>false
  else if k=44\/k=45 then named n s&&match l with|[x]=>x.isPlace|_=>false
  else if 46<=k/\k<=49 then plain n s&&match l with|[x]=>x.isPlace|_=>false
  else if k=50\/k=51 then named n s&&decide (l.length<=8)&&l.all Nd.isVar
  else if k=52\/k=53 then plain n s&&match l with|[x,y,z,u]=>x.isExpr&&y.isBlock&&z.isBlock&&u.isExpr|_=>false
  else if k=54 then named n s&&match l with|[x,y,z]=>x.isExpr&&y.isBlock&&z.isExpr|_=>false
  else if k=55 then named n s&&match l with|[x]=>x.isBlock|_=>false
  else false
def Nd.isBlock:Nd->Bool
 | .mk k n s l=>k==57&&plain n s&&DZ l
def DZ:List Nd->Bool
 | []=>true
 | t::r=>t.isStmt&&DZ r
end
inductive StmtSh:Nd->Prop where
 | upd {k:Int} {x y:Nd}:(k=40\/k=41\/k=42\/k=56)->x.isPlace=true->y.isExpr=true->StmtSh (.mk k 0 [] [x,y])
 | swap {x y:Nd}:x.isPlace=true->y.isPlace=true->StmtSh (.mk 43 0 [] [x,y])
 | stack {k:Int} {s:lB} {x:Nd}:(k=44\/k=45)->Cv s=true->x.isPlace=true->StmtSh (.mk k 0 s [x])
 | tape {k:Int} {x:Nd}:(k=46\/k=47\/k=48\/k=49)->x.isPlace=true->StmtSh (.mk k 0 [] [x])
 | call {k:Int} {s:lB} {l:List Nd}:(k=50\/k=51)->Cv s=true->l.length<=8->l.all Nd.isVar=true->StmtSh (.mk k 0 s l)
 | branch {k:Int} {x y z u:Nd}:(k=52\/k=53)->x.isExpr=true->y.isBlock=true->z.isBlock=true->u.isExpr=true->StmtSh (.mk k 0 [] [x,y,z,u])
 | local_ {s:lB} {x y z:Nd}:Cv s=true->x.isExpr=true->y.isBlock=true->z.isExpr=true->StmtSh (.mk 54 0 s [x,y,z])
 | lstack {s:lB} {x:Nd}:Cv s=true->x.isBlock=true->StmtSh (.mk 55 0 s [x])
def B3 {t:Nd} (h:t.isStmt=true):StmtSh t:=by
 obtain ⟨k,n,s,l⟩:=t;unfold Nd.isStmt at h;by_cases N:k=40\/k=41\/k=42\/k=56
 . rw [AH N] at h;simp only [gR,plain,beq_iff_eq,jn] at h;obtain ⟨⟨rfl,rfl⟩,G⟩:=h;split at G
   . simp only [gR] at G;exact .upd N G.1 G.2
   . cases G
 rw [At N] at h;by_cases O:k=43
 . rw [AH O] at h;simp only [gR,plain,beq_iff_eq,jn] at h;obtain ⟨⟨rfl,rfl⟩,G⟩:=h;subst O;split at G
   . simp only [gR] at G;exact .swap G.1 G.2
   . cases G
 rw [At O] at h;by_cases U:k=44\/k=45
 . rw [AH U] at h;simp only [gR,named,beq_iff_eq] at h;obtain ⟨⟨rfl,M⟩,G⟩:=h;split at G
   . exact .stack U M G
   . cases G
 rw [At U] at h;by_cases c4:46<=k/\k<=49
 . rw [AH c4] at h;simp only [gR,plain,beq_iff_eq,jn] at h;obtain ⟨⟨rfl,rfl⟩,G⟩:=h;split at G
   . exact .tape Ab G
   . cases G
 rw [At c4] at h;by_cases V:k=50\/k=51
 . rw [AH V] at h;simp only [gR,named,beq_iff_eq,decide_eq_true_eq] at h;obtain ⟨⟨⟨rfl,M⟩,h1⟩,G⟩:=h;exact .call V M h1 G
 rw [At V] at h;by_cases X:k=52\/k=53
 . rw [AH X] at h;simp only [gR,plain,beq_iff_eq,jn] at h;obtain ⟨⟨rfl,rfl⟩,G⟩:=h;split at G
   . simp only [gR] at G;exact .branch X G.1.1.1 G.1.1.2 G.1.2 G.2
   . cases G
 rw [At X] at h;by_cases Y:k=54
 . rw [AH Y] at h;simp only [gR,named,beq_iff_eq] at h;obtain ⟨⟨rfl,M⟩,G⟩:=h;subst Y;split at G
   . simp only [gR] at G;exact .local_ M G.1.1 G.1.2 G.2
   . cases G
 rw [At Y] at h;by_cases Z:k=55
 . rw [AH Z] at h;simp only [gR,named,beq_iff_eq] at h;obtain ⟨⟨rfl,M⟩,G⟩:=h;subst Z;split at G
   . exact .lstack M G
   . cases G
 rw [At Z] at h;cases h
def D4 {t:Nd} (h:StmtSh t):t.isStmt=true:=by
 cases h with
 | upd M G N=>unfold Nd.isStmt;rw [AH M];simp [plain,G,N]
 | swap G N=>unfold Nd.isStmt;simp [plain,G,N]
 | stack M O G=>rcases M with rfl|rfl<;>(unfold Nd.isStmt;simp [named,O,G])
 | tape M G=>rcases M with rfl|rfl|rfl|rfl<;>(unfold Nd.isStmt;simp [plain,G])
 | call M O V X=>rcases M with rfl|rfl<;>(unfold Nd.isStmt;simp only [named,O,X];simp [V])
 | branch M G N U Y=>rcases M with rfl|rfl<;>(unfold Nd.isStmt;simp [plain,G,N,U,Y])
 | local_ O G N U=>unfold Nd.isStmt;simp [named,O,G,N,U]
 | lstack O G=>unfold Nd.isStmt;simp [named,O,G]
def Gn {t:Nd} (h:t.isExpr=true):1<=t.kind/\t.kind<=23:=by
 obtain ⟨k,n,s,l⟩:=t;unfold Nd.isExpr at h;simp only [Nd.kind];by_cases G:k=1
 . omega
 rw [At G] at h;by_cases M:k=2\/k=4\/k=5
 . omega
 rw [At M] at h;by_cases N:k=3
 . omega
 rw [At N] at h;by_cases O:k=6\/k=7
 . omega
 rw [At O] at h;by_cases U:8<=k/\k<=23
 . omega
 rw [At U] at h;cases h
def Be {t:Nd} (h:t.isPlace=true):t.isExpr=true:=by
 simp only [Nd.isPlace,gR] at h;exact h.2
def GK {t:Nd} (h:t.isVar=true):t.isExpr=true:=by
 simp only [Nd.isVar,gR] at h;exact h.2
def N1 {t:Nd} (h:t.isStmt=true):40<=t.kind/\t.kind<=56:=by
 cases B3 h<;>simp only [Nd.kind]<;>omega
def D5 {t:Nd} (h:t.isBlock=true):t = .mk 57 0 [] t.kids/\DZ t.kids=true:=by
 obtain ⟨k,n,s,l⟩:=t;unfold Nd.isBlock at h;simp only [gR,plain,beq_iff_eq,jn] at h;obtain ⟨⟨rfl,rfl,rfl⟩,G⟩:=h;exact ⟨rfl,G⟩
def rowStmt_iff:∀ {l:List Nd},DZ l=true ↔ ∀x∈l,x.isStmt=true
 | []=>by simp [DZ]
 | t::r=>by simp [DZ,rowStmt_iff (l:=r)]
structure Tok where
 kind:Int
 text:lB
 pos:Int
section
variable (ts:List Tok) (n:Int)
end
mutual
def Nd.depth:Nd->Int
 | .mk _ _ _ l=>Bt l+1
def Bt:List Nd->Int
 | []=>0
 | t::r=>max t.depth (Bt r)
end
section
variable (ts:List Tok) (n:Int)
end
def BW:Nd:=.mk 0 0 [] []
def A9 (k:Int):Int:=
 if k=40 then 41 else if k=41 then 40 else if k=44 then 45 else if k=45 then 44 else if k=46 then 47 else if k=47 then 46
 else if k=48 then 49 else if k=49 then 48 else if k=50 then 51 else if k=51 then 50 else k
def Gp (l:List Nd):List Nd:=(l.set 0 (l.getD (l.length-1) (.mk 0 0 [] []))).set (l.length-1) (l.getD 0 (.mk 0 0 [] []))
mutual
def Nd.inv (q:Bool):Nd->Nd
 | .mk k n s l=>
  if k=57 then .mk k n s (Cc q l).reverse
  else if k=52\/k=53\/k=54 then .mk k n s (Gp (Dv q l))
  else if k=50\/k=51 then .mk (if q then k else A9 k) n s (Dv q l)
  else .mk (A9 k) n s (Dv q l)
def Cc (q:Bool):List Nd->List Nd
 | []=>[]
 | t::r=>t.inv q::Cc q r
def Dv (q:Bool):List Nd->List Nd
 | []=>[]
 | t::r=>(if t.kind=57 then t.inv q else t)::Dv q r
end
def Mb (q:Bool):∀l:List Nd,(Cc q l).length=l.length
 | []=>rfl
 | t::r=>by simp only [Cc,gV,Mb q r]
def Mc (q:Bool):∀l m:List Nd,Cc q (l++m)=Cc q l++Cc q m
 | [],m=>rfl
 | t::r,m=>by simp only [Cc,jC,Mc q r m]
def I9 (q:Bool):∀l:List Nd,Cc q l.reverse=(Cc q l).reverse
 | []=>rfl
 | t::r=>by simp only [Cc,jR,Mc,I9 q r]
def Dp (q:Bool) {t:Nd} (h:t.isExpr=true):(if t.kind=57 then t.inv q else t)=t:=by
 have:=Gn h;rw [At Ab]
def GL (q:Bool) {t:Nd} (h:t.isBlock=true):(if t.kind=57 then t.inv q else t)=t.inv q:=by
 obtain ⟨e,-⟩:=D5 h;rw [e];rfl
def N2 (q:Bool):∀l:List Nd,l.all Nd.isVar=true->Dv q l=l
 | [],_=>rfl
 | t::r,h=>by
  simp only [kU,gR] at h;simp only [Dv,Dp q (GK h.1),N2 q r h.2]
def bF (x y z:Nd):Gp [x,y,z]=[z,y,x]:=rfl
def bG (x y z u:Nd):Gp [x,y,z,u]=[u,y,z,x]:=rfl
section
variable (q:Bool)
def Pb {x:Nd} (hk:k=40\/k=41\/k=42\/k=56) (hx:x.isExpr=true) (hy:y.isExpr=true):(Nd.mk k 0 [] [x,y]).inv q = .mk (A9 k) 0 [] [x,y]:=by
 conv=>lhs;unfold Nd.inv
 rw [At Ab,At Ab,At Ab];simp only [Dv,Dp q hx,Dp q hy]
def Md {x:Nd} (hx:x.isExpr=true) (hy:y.isExpr=true):(Nd.mk 43 0 [] [x,y]).inv q = .mk 43 0 [] [x,y]:=by
 conv=>lhs;unfold Nd.inv
 rw [At Ab,At Ab,At Ab];simp only [Dv,Dp q hx,Dp q hy];rfl
def Im {s:lB} {x:Nd} (hk:44<=k/\k<=49) (hx:x.isExpr=true):(Nd.mk k 0 s [x]).inv q = .mk (A9 k) 0 s [x]:=by
 conv=>lhs;unfold Nd.inv
 rw [At Ab,At Ab,At Ab];simp only [Dv,Dp q hx]
def Me {s:lB} {l:List Nd} (hk:k=50\/k=51) (hl:l.all Nd.isVar=true):(Nd.mk k 0 s l).inv q = .mk (if q then k else A9 k) 0 s l:=by
 conv=>lhs;unfold Nd.inv
 rw [At Ab,At Ab,AH hk,N2 q l hl]
def Ja {x z u:Nd} (hk:k=52\/k=53) (hx:x.isExpr=true) (hy:y.isBlock=true) (hz:z.isBlock=true) (hu:u.isExpr=true):(Nd.mk k 0 [] [x,y,z,u]).inv q = .mk k 0 [] [u,y.inv q,z.inv q,x]:=by
 conv=>lhs;unfold Nd.inv
 rw [At Ab,AH Ab];simp only [Dv,Dp q hx,Dp q hu,GL q hy,GL q hz,bG]
def KF {s:lB} {x z:Nd} (hx:x.isExpr=true) (hy:y.isBlock=true) (hz:z.isExpr=true):(Nd.mk 54 0 s [x,y,z]).inv q = .mk 54 0 s [z,y.inv q,x]:=by
 conv=>lhs;unfold Nd.inv
 rw [At Ab,AH Ab];simp only [Dv,Dp q hx,Dp q hz,GL q hy,bF]
def Jb {s:lB} {x:Nd} (hx:x.isBlock=true):(Nd.mk 55 0 s [x]).inv q = .mk 55 0 s [x.inv q]:=by
 conv=>lhs;unfold Nd.inv
 rw [At Ab,At Ab,At Ab];simp only [Dv,GL q hx];rfl
def EI (l:List Nd):(Nd.mk 57 0 [] l).inv q = .mk 57 0 [] (Cc q l).reverse:=by
 conv=>lhs;unfold Nd.inv
 rw [AH rfl]
end
def Eb:A9 (A9 k)=k:=by
 unfold A9;by_cases G:k=40;· subst G;rfl
 by_cases M:k=41;· subst M;rfl
 by_cases N:k=44;· subst N;rfl
 by_cases O:k=45;· subst O;rfl
 by_cases U:k=46;· subst U;rfl
 by_cases V:k=47;· subst V;rfl
 by_cases X:k=48;· subst X;rfl
 by_cases Y:k=49;· subst Y;rfl
 by_cases Z:k=50;· subst Z;rfl
 by_cases h:k=51;· subst h;rfl
 simp only [G,M,N,O,U,V,X,Y,Z,h,if_false]
def Ql (h:k=40\/k=41\/k=42\/k=56):A9 k=40\/A9 k=41\/A9 k=42\/A9 k=56:=by rcases h with rfl|rfl|rfl|rfl<;>decide
def UH (h:k=50\/k=51):A9 k=50\/A9 k=51:=by rcases h with rfl|rfl<;>decide
def Mf (h:k=44\/k=45):A9 k=44\/A9 k=45:=by rcases h with rfl|rfl<;>decide
def N3 (h:k=46\/k=47\/k=48\/k=49):A9 k=46\/A9 k=47\/A9 k=48\/A9 k=49:=by rcases h with rfl|rfl|rfl|rfl<;>decide
structure InvOk (q:Bool) (t:Nd):Prop where
 st:t.isStmt=true->(t.inv q).isStmt=true
 bl:t.isBlock=true->(t.inv q).isBlock=true
 back:(t.inv q).inv q=t
 size:(t.inv q).size=t.size
 depth:(t.inv q).depth=t.depth
 wf:t.wf->(t.inv q).wf
def Lb:∀l m:List Nd,AV (l++m)=AV l+AV m
 | [],m=>by simp [AV]
 | t::r,m=>by simp only [AV,jC,Lb r m];omega
def Lc:∀l:List Nd,AV l.reverse=AV l
 | []=>rfl
 | t::r=>by simp only [jR,Lb,Lc r,AV];omega
def GM:∀l:List Nd,0<=Bt l
 | []=>by simp [Bt]
 | t::r=>by have:=GM r;simp only [Bt];omega
def JO:∀l m:List Nd,Bt (l++m)=max (Bt l) (Bt m)
 | [],m=>by have:=GM m;simp only [Bt,jJ];omega
 | t::r,m=>by simp only [Bt,jC,JO r m];omega
def JP:∀l:List Nd,Bt l.reverse=Bt l
 | []=>rfl
 | t::r=>by have:=GM r;simp only [jR,JO,JP r,Bt];omega
def rowWf_iff:∀ {l:List Nd},CY l ↔ ∀x∈l,x.wf
 | []=>by simp [CY]
 | t::r=>by simp [CY,rowWf_iff (l:=r)]
def DI:∀ {l:List Nd} {x:Nd},x∈l->x.size<=AV l
 | t::r,x,h=>by
  simp only [AV];rcases io.1 h with rfl|h
  . omega
  . have:=DI h;omega
def WA (q:Bool):∀l:List Nd,(∀t∈l,InvOk q t)->(∀t∈l,t.isStmt=true)->(∀x∈Cc q l,x.isStmt=true)/\Cc q (Cc q l)=l/\AV (Cc q l)=AV l/\Bt (Cc q l)=Bt l/\(CY l->CY (Cc q l))
 | [],_,_=>⟨by simp [Cc],rfl,rfl,rfl,λh=>h⟩
 | t::r,h,O=>by
  have M:=h t AK;obtain ⟨U,V,i3,X,Y⟩:=WA q r (λx G=>h x (by simp [G])) (λx G=>O x (by simp [G]));refine ⟨λx G=>?_,?_,?_,?_,λN=>?_⟩
  . simp only [Cc,io] at G;rcases G with rfl|G
    . exact M.st (O t AK)
    . exact U x G
  . simp only [Cc,M.back,V]
  . simp only [Cc,AV,M.size,i3]
  . simp only [Cc,Bt,M.depth,X]
  . simp only [Cc,CY] at N ⊢;exact ⟨M.wf N.1,Y N.2⟩
def Jc (h:0<=k) (G:k<=255):0<=A9 k/\A9 k<=255:=by
 unfold A9
 repeat' split
 all_goals omega
def bJ (q:Bool) (N:Nat):∀t:Nd,t.size<N->t.isStmt=true\/t.isBlock=true->InvOk q t:=by
 induction N with
 | zero=>intro t h;omega
 | succ N ih=>
  intro t hN h;by_cases X:t.isStmt=true
  . have ac:∀ {u:Nd},u.isStmt=true -> ¬u.isBlock=true:=λ{u} hu hb=>by
     have h1:=N1 hu;obtain ⟨e,-⟩:=D5 hb;rw [e] at h1;simp only [Nd.kind] at h1;omega
    have mk:∀u v:Nd,u.isStmt=true->u.inv q=v->v.isStmt=true->v.inv q=u->v.size=u.size->v.depth=u.depth->(u.wf->v.wf)->InvOk q u:=λu v hu e h1 h2 h3 h4 h5=>⟨λ_=>by rw [e];exact h1,λhb=>absurd hb (ac hu),by rw [e,h2],by rw [e,h3],by rw [e,h4],by rw [e];exact h5⟩
    cases B3 X with
    | @upd k x y O G U=>
     have Z:=Be G;refine mk _ _ X (Pb q O Z U) (D4 (.upd (Ql O) G U)) (by rw [Pb q (Ql O) Z U,Eb]) rfl rfl (λM=>?_);have:=Jc M.1 M.2.1;exact ⟨this.1,this.2,M.2.2⟩
    | @swap x y G U=>
     exact mk _ _ X (Md q (Be G) (Be U)) X (Md q (Be G) (Be U)) rfl rfl (λM=>M)
    | @stack k s x O hn G=>
     have Z:=Be G;refine mk _ _ X (Im q Ab Z) (D4 (.stack (Mf O) hn G)) (by rw [Im q (by have:=Mf O;omega) Z,Eb]) rfl rfl (λM=>?_);have:=Jc M.1 M.2.1;exact ⟨this.1,this.2,M.2.2⟩
    | @tape k x O G=>
     have Z:=Be G;refine mk _ _ X (Im q Ab Z) (D4 (.tape (N3 O) G)) (by rw [Im q (by have:=N3 O;omega) Z,Eb]) rfl rfl (λM=>?_);have:=Jc M.1 M.2.1;exact ⟨this.1,this.2,M.2.2⟩
    | @call k s l O hn hl ha=>
     have aa:(if q then k else A9 k)=50\/(if q then k else A9 k)=51:=by
      cases q
      . exact UH O
      . exact O
     refine mk _ _ X (Me q O ha) (D4 (.call aa hn hl ha)) ?_ rfl rfl (λM=>?_)
     . rw [Me q aa ha];cases q
       . simp only [iS,if_false,Eb]
       . simp
     . exact ⟨Ab,Ab,M.2.2⟩
    | @branch k x y z u O G U hz hu=>
     simp only [Nd.size,AV] at hN;have V:=ih y Ab (gQ U);have iz:=ih z Ab (gQ hz);refine mk _ _ X (Ja q O G U hz hu) (D4 (.branch O hu (V.bl U) (iz.bl hz) G)) (by rw [Ja q O hu (V.bl U) (iz.bl hz) G,V.back,iz.back]) ?_ ?_ (λM=>?_)
     . simp only [Nd.size,AV,V.size,iz.size];omega
     . simp only [Nd.depth,Bt,V.depth,iz.depth];omega
     . obtain ⟨w1,w2,w3,w4,w5,w6,Y⟩:=M;exact ⟨w1,w2,w3,w4,w5,w6,Y.2.2.2.1,V.wf Y.2.1,iz.wf Y.2.2.1,Y.1,trivial⟩
    | @local_ s x y z hn G U hz=>
     simp only [Nd.size,AV] at hN;have V:=ih y Ab (gQ U);refine mk _ _ X (KF q G U hz) (D4 (.local_ hn hz (V.bl U) G)) (by rw [KF q hz (V.bl U) G,V.back]) ?_ ?_ (λM=>?_)
     . simp only [Nd.size,AV,V.size];omega
     . simp only [Nd.depth,Bt,V.depth];omega
     . obtain ⟨w1,w2,w3,w4,w5,w6,Y⟩:=M;exact ⟨w1,w2,w3,w4,w5,w6,Y.2.2.1,V.wf Y.2.1,Y.1,trivial⟩
    | @lstack s x hn G=>
     simp only [Nd.size,AV] at hN;have ix:=ih x Ab (gQ G);refine mk _ _ X (Jb q G) (D4 (.lstack hn (ix.bl G))) (by rw [Jb q (ix.bl G),ix.back]) ?_ ?_ (λM=>?_)
     . simp only [Nd.size,AV,ix.size]
     . simp only [Nd.depth,Bt,ix.depth]
     . obtain ⟨w1,w2,w3,w4,w5,w6,Y⟩:=M;exact ⟨w1,w2,w3,w4,w5,w6,ix.wf Y.1,trivial⟩
  . have hb:t.isBlock=true:=h.resolve_left X;obtain ⟨e,hr⟩:=D5 hb;obtain ⟨k,n,s,l⟩:=t;simp only [Nd.kids,Nd.mk.injEq,and_true] at e;obtain ⟨rfl,rfl,rfl⟩:=e;simp only [Nd.kids] at hr;simp only [Nd.size] at hN;have ab:=rowStmt_iff.1 hr;obtain ⟨i1,i2,i3,i4,i5⟩:=WA q l (λt ht=>ih t (by have:=DI ht;omega) (gP (ab t ht))) ab;refine ⟨λh=>absurd h X,λ_=>?_,?_,?_,?_,λM=>?_⟩
    . rw [EI];unfold Nd.isBlock;rw [rowStmt_iff.2 (λx G=>i1 x (List.mem_reverse.1 G))];rfl
    . rw [EI,EI,I9,lC,i2]
    . rw [EI];simp only [Nd.size,Lc,i3]
    . rw [EI];simp only [Nd.depth,JP,i4]
    . rw [EI];obtain ⟨w1,w2,w3,w4,w5,w6,Y⟩:=M;exact ⟨w1,w2,w3,w4,w5,by rw [List.length_reverse,Mb];exact w6,rowWf_iff.2 (λx G=>rowWf_iff.1 (i5 Y) x (List.mem_reverse.1 G))⟩
def AW (at_:lB->Option (List Int)):Nd->Int×Int
 | .mk k n s l=>
  if k=1 then (n,0)
  else if k=2 then match at_ s with
   | none=>(0,6)
   | some c=>if c.length=1 then (c.getD 0 0,0) else (0,7)
  else if k=3 then match at_ s with
   | none=>(0,6)
   | some c=>match l with
    | [x]=>if (AW at_ x).2≠0 then (0,(AW at_ x).2) else if (AW at_ x).1<0\/(c.length:Int)<=(AW at_ x).1 then (0,12) else (c.getD (AW at_ x).1.toNat 0,0)
    | _=>(0,0)
  else if k=4 then match at_ s with
   | none=>(0,6)
   | some c=>if c.length=0 then (0,13) else (c.getD (c.length-1) 0,0)
  else if k=5 then match at_ s with
   | none=>(0,6)
   | some c=>(c.length,0)
  else match l with
   | [x]=>if (AW at_ x).2≠0 then (0,(AW at_ x).2) else EH k (AW at_ x).1
   | [x,y]=>if (AW at_ x).2≠0 then (0,(AW at_ x).2) else if (AW at_ y).2≠0 then (0,(AW at_ y).2) else EG k (AW at_ x).1 (AW at_ y).1
   | _=>(0,0)
def Bf (at_:lB->Option (List Int)) (t:Nd):Int×Int:=
 if t.kind=2 then (0,0) else match t.kids with
 | x::_=>AW at_ x
 | []=>(0,0)
def BP (s:lB):List VD->Option Nat
 | []=>none
 | v::r=>match BP s r with
  | some i=>some (i+1)
  | none=>if v.name=s then some 0 else none
structure Frm where
 vars:List VD
 cells:List Nat
 locals:Nat
structure Stp where
 heap:List (List Int)
 base:Frm
 calls:List Frm
 tin:List Int
 tout:List Int
def Stp.cur (st:Stp):Frm:=st.calls.getLast?.getD st.base
def Stp.setCur (st:Stp) (f:Frm):Stp:=if st.calls=[] then { st with base:=f } else { st with calls:=st.calls.dropLast++[f] }
def Stp.items (st:Stp) (c:Nat):List Int:=st.heap.getD c []
def Frm.cell (f:Frm) (s:lB):Option Nat:=(BP s f.vars).bind (f.cells[·]?)
def Stp.cellD (st:Stp) (s:lB):Nat:=(st.cur.cell s).getD 0
def Stp.look (st:Stp) (s:lB):Option (List Int):=(st.cur.cell s).map st.items
def Stp.all (st:Stp) (c:Nat) (xs:List Int):Stp:={ st with heap:=st.heap.set c xs }
def Stp.put (st:Stp) (c i:Nat) (v:Int):Stp:=st.all c ((st.items c).set i v)
def CF (k:Int):Int:=if k=2 then 1 else if k=3 then 2 else if k=4\/k=5\/k=44\/k=45 then 3 else 0
mutual
def Nd.bad (v:List VD):Nd->Int
 | .mk k _ s l=>if CF k≠0/\Ek v s (CF k)≠0 then Ek v s (CF k) else Fe v l
def Fe (v:List VD):List Nd->Int
 | []=>0
 | t::r=>if t.bad v≠0 then t.bad v else Fe v r
end
def LH (k x y:Int):Int:=if k=40 then KE (x+y) else if k=41 then KE (x-y) else NM .xor x y
def Stp.transfer (st:Stp) (k:Int) (c i:Nat):Int×Stp:=
 if k=46 then match st.tin with
  | []=>(17,st)
  | v::r=>if (st.items c).getD i 0≠0 then (14,st) else (0,{ st.put c i v with tin:=r })
 else if k=47 then if 4096<=st.tin.length then (5,st) else (0,{ st.put c i 0 with tin:=(st.items c).getD i 0::st.tin })
 else if k=48 then if 4096<=st.tout.length then (5,st) else (0,{ st.put c i 0 with tout:=st.tout++[(st.items c).getD i 0] })
 else match st.tout.getLast? with
  | none=>(17,st)
  | some v=>if (st.items c).getD i 0≠0 then (14,st) else (0,{ st.put c i v with tout:=st.tout.dropLast })
def Stp.move (st:Stp) (k:Int) (c i d:Nat):Int×Stp:=
 if k=44 then if 1000<=(st.items d).length then (5,st) else (0,(st.all d (st.items d++[(st.items c).getD i 0])).put c i 0)
 else match (st.items d).getLast? with
  | none=>(13,st)
  | some v=>if (st.items c).getD i 0≠0 then (14,st) else (0,(st.put c i v).all d (st.items d).dropLast)
def Stp.exec (st:Stp) (k:Int) (s:lB) (l:List Nd):Int×Stp:=
 let x:=l.getD 0 (.mk 0 0 [] [])
 let y:=l.getD 1 (.mk 0 0 [] [])
 let a:=Bf st.look x
 let r:=if k=43 then Bf st.look y else if 40<=k/\k<=42 then AW st.look y else (0,0)
 let c:=st.cellD x.name
 if a.2≠0 then (a.2,st) else if r.2≠0 then (r.2,st) else if a.1<0\/((st.items c).length:Int)<=a.1 then (12,st)
 else if 40<=k/\k<=42 then (0,st.put c a.1.toNat (LH k ((st.items c).getD a.1.toNat 0) r.1))
 else if k=43 then
  if r.1<0\/((st.items (st.cellD y.name)).length:Int)<=r.1 then (12,st)
  else (0,(st.put c a.1.toNat ((st.items (st.cellD y.name)).getD r.1.toNat 0)).put (st.cellD y.name) r.1.toNat ((st.items c).getD a.1.toNat 0))
 else if k=44\/k=45 then st.move k c a.1.toNat (st.cellD s)
 else st.transfer k c a.1.toNat
def Stp.run1 (st:Stp) (k n:Int) (s:lB) (l:List Nd):Int×Stp:=
 if k=56 then (9,st) else if (Nd.mk k n s l).bad st.cur.vars≠0 then ((Nd.mk k n s l).bad st.cur.vars,st) else st.exec k s l
def Stp.opens (st:Stp) (v:VD) (x:Int):Int×Stp:=
 if (BP v.name st.cur.vars).isSome then (22,st)
 else (0,{ st.setCur ⟨st.cur.vars++[v],st.cur.cells++[st.heap.length],st.cur.locals+1⟩ with heap:=st.heap++[if v.kind=1 then [x] else []] })
def Stp.closes (st:Stp) (s:lB) (x:Int):Int×Stp:=
 let f:=st.cur
 let v:=f.vars.getD (f.vars.length-1) ⟨[],0,0⟩
 let xs:=st.items (f.cells.getD (f.vars.length-1) 0)
 if f.locals=0\/v.name≠s then (6,st)
 else if v.kind=1/\xs.getD 0 0≠x\/v.kind=3/\0<xs.length then (16,st)
 else (0,st.setCur ⟨f.vars.dropLast,f.cells.dropLast,f.locals-1⟩)
def BQ (f:Frm):List VD->List lB->Int×List Nat
 | [],_=>(0,[])
 | _::_,[]=>(0,[])
 | v::r,s::q=>match BP s f.vars with
  | none=>(6,[])
  | some i=>if (f.vars.getD i ⟨[],0,0⟩).kind≠v.kind\/(f.vars.getD i ⟨[],0,0⟩).len≠v.len then (7,[])
   else ((BQ f r q).1,f.cells.getD i 0::(BQ f r q).2)
def Stp.enters (st:Stp) (ps:List VD) (args:List lB):Int×Stp:=
 if ps.length≠args.length then (7,st)
 else if (BQ st.cur ps args).1≠0 then ((BQ st.cur ps args).1,st)
 else if 100<=st.calls.length then (19,st)
 else (0,{ st with calls:=st.calls++[⟨ps,(BQ st.cur ps args).2,0⟩] })
def Stp.leaves (st:Stp):Int×Stp:=if st.calls=[]\/0<st.cur.locals then (20,st) else (0,{ st with calls:=st.calls.dropLast })
structure Rn where
 st:Stp
 rem:Nat
def A4 (r:Rn):Except Int Rn:=if r.rem=0 then .error 18 else .ok ⟨r.st,r.rem-1⟩
def Cy (f:Stp->Int×Stp) (r:Rn):Except Int Rn:=if (f r.st).1≠0 then .error (f r.st).1 else .ok ⟨(f r.st).2,r.rem⟩
def BD (t:Nd) (r:Rn):Except Int Int:=if (AW r.st.look t).2≠0 then .error (AW r.st.look t).2 else .ok (AW r.st.look t).1
def BI (t:Nd) (r:Rn):Except Int (Bool×Rn):=(A4 r).bind λr=>(BD t r).bind λv=>.ok (decide (v≠0),r)
def Bj (t:Nd) (want:Bool) (r:Rn):Except Int Rn:=(BI t r).bind λp=>if p.1≠want then .error 15 else .ok p.2
def Eh (f:Nd->Rn->Except Int Rn):List Nd->Rn->Except Int Rn
 | [],r=>.ok r
 | t::l,r=>(f t r).bind (Eh f l)
def Ch (b1 b2:Rn->Except Int Rn) (test entry:Nd):Nat->Rn->Except Int Rn
 | 0,_=>.error (-1)
 | m+1,r=>(b1 r).bind λr=>(BI test r).bind λp=>if p.1 then .ok p.2 else (b2 p.2).bind λr=>(Bj entry false r).bind (Ch b1 b2 test entry m)
def AG (f:Bool->Nd->Rn->Except Int Rn) (back:Bool) (t:Nd) (r:Rn):Except Int Rn:=Eh (f back) (if back then t.kids.reverse else t.kids) r
def Bu (l:List Nd) (i:Nat):Nd:=l.getD i (.mk 0 0 [] [])
def Aw (ps:List PD):Nat->Bool->Nd->Rn->Except Int Rn
 | 0,_,_,_=>.error (-1)
 | d+1,back,.mk k n s l,r=>
  let first:=if back then Bu l (l.length-1) else Bu l 0
  let last:=if back then Bu l 0 else Bu l (l.length-1)
  let blk:=AG (Aw ps d)
  if k=52 then (BI first r).bind λp=>(blk back (if p.1 then Bu l 1 else Bu l 2) p.2).bind (Bj last p.1)
  else if k=53 then (Bj first true r).bind (Ch (blk back (Bu l 1)) (blk back (Bu l 2)) last first d)
  else if k=54 then (A4 r).bind λr=>(BD first r).bind λv=>(Cy (·.opens ⟨s,1,0⟩ v) r).bind λr=>(blk back (Bu l 1) r).bind λr=>
   (A4 r).bind λr=>(BD last r).bind λv=>Cy (·.closes s v) r
  else if k=55 then (A4 r).bind λr=>(Cy (·.opens ⟨s,3,0⟩ 0) r).bind λr=>(blk back (Bu l 0) r).bind λr=>(A4 r).bind (Cy (·.closes s 0))
  else if k=50\/k=51 then
   let p:=ps.getD ((Cg ps s).getD 0) ⟨[],[],.mk 0 0 [] []⟩
   (A4 r).bind λr=>(Cy (·.enters p.params (l.map Nd.name)) r).bind λr=>(blk (back != decide (k=51)) p.body r).bind λr=>(A4 r).bind (Cy (·.leaves))
  else (A4 r).bind (Cy (·.run1 (if back then A9 k else k) n s l))
structure Shape (α:Type) where
 sz:Nat
 rep:wD->(nP)->α->lV->Prop
 len:∀ {w S x cs},rep w S x cs->cs.length=sz
 one:∀ {w S x cs},rep w S x cs->cs.all Value.one=true
 mono:∀ {w w':wD} {S S' x cs},rep w S x cs->(∀b,S b->S' b)->(∀b o v,S b->w.cell? ⟨b,o,none⟩=some v->w'.cell? ⟨b,o,none⟩=some v)->rep w' S' x cs
 lt:∀ {w S x cs},rep w S x cs->rep w (λb=>S b/\b<w.heap.size) x cs
structure OwnL {α:Type} (sh:Shape α) (w:wD) (B:Nat) (e:TypeId) (v:Value) (xs:List α):Prop where
 ex:∃css:List lV,Own w B e sh.sz v xs.length css.flatten/\css.length=xs.length /\ ∀(i:Nat) (x:α) (cs:lV),xs[i]? = some x->css[i]? = some cs->sh.rep w (λb=>B<=b/\v.ownBlock≠some b) x cs
def OwnL.nil {α:Type} {sh:Shape α} {w:wD} {B e:Nat}:OwnL sh w B e (.slice none 0 0) []:=⟨⟨[],Own.nil,rfl,AK⟩⟩
def Own.ge (h:Own w b e sz v n cs) {k:Nat} (G:v.ownBlock=some k):b<=k:=(h.blk G).1
def OwnL.ge {α:Type} {sh:Shape α} {w:wD} {B e:Nat} {v:Value} {xs:List α} (h:OwnL sh w B e v xs) {k:Nat} (G:v.ownBlock=some k):B<=k:=by
 obtain ⟨M,N,-⟩:=h.ex;exact N.ge G
def OwnL.ext {α:Type} {sh:Shape α} {w w':wD} {B e:Nat} {v:Value} {xs:List α} (h:OwnL sh w B e v xs) (x:Ext w w'):OwnL sh w' B e v xs:=by
 obtain ⟨G,M,N,O⟩:=h.ex;exact ⟨G,M.ext x,N,λi y cs U V=>sh.mono (O i y cs U V) aFh (λb o u _ X=>x.keep X)⟩
instance {sh:Shape α} {xs:List α}:LfE w w' (OwnL sh w B e v xs) (OwnL sh w' B e v xs):=⟨λx h=>Bk.OwnL.ext h x⟩
def OwnL.fr {α:Type} {sh:Shape α} {S:nP} {w w':wD} {B e:Nat} {v:Value} {xs:List α} (h:OwnL sh w B e v xs) (x:Fr S w w') (N:∀k,S k->k<B):OwnL sh w' B e v xs:=by
 obtain ⟨G,O,U,V⟩:=h.ex;exact ⟨G,O.fr x (λk X M=>by have:=O.ge X;have:=N k M;omega),U,λi y cs Y Z=>sh.mono (V i y cs Y Z) aFh (λb o u hb hu=>x.keep (λM=>by have:=N b M;omega) hu)⟩
instance {sh:Shape α} {S:nP} {xs:List α}:LfF S w w' (OwnL sh w B e v xs) (∀k,S k->k<B) (OwnL sh w' B e v xs):=⟨λx s h=>Bk.OwnL.fr h x s⟩
def El {G:List (List α)} (h:∀cs∈G,cs.length=n):G.flatten.length=G.length*n:=by
 induction G with
 | nil=>simp
 | cons c r M=>
  simp only [jS,iq,gV,M (λx N=>h x (iU _ N)),h c je,jQ];omega
def dW {α:Type} (sh:Shape α) (w:wD) (B:Nat) (e:TypeId) (xs:List α):Option Value->wD->Prop
 | some v',w'=> ∃g cap,v' = .slice (some ⟨g,0,none⟩) xs.length cap/\OwnL sh w' B e v' xs/\Fr (B <= ·) w w'
 | none,_=>False
section
variable {tab:Tab} {zt:Ey} {sh:Shape α}
def GN {y:Operand} {cap:Nat} {xs:List α} {z:α} {p:Addr} (T:TabOk P tab) (Z:Ct P zt) (ht:AB tab t=some (.slice e,sz)) (hE:AB tab e=some (s,sh.sz)) (hz:CP zt e=some zs) (hzl:zs.length=sh.sz)
 (hby:Dt P e=true) (hsz:iE 0 sh.sz=true) (hx:ev l x=some v) (hy:ev l y=some (.slice (some p) 1 cap)) (hown:OwnL sh w B e v xs) (hr:Row w p cs) (hrep:sh.rep w (λb=>B<=b/\v.ownBlock≠some b) z cs) (hlen:xs.length<=10000000000) (hB:B<=w.heap.size) :
 BE P n l (.call ⟨.builtin .append,#[x,y],#[t,t]⟩) ty w (dW sh w B e (xs++[z])):=by
 obtain ⟨css,h1,h2,h3⟩:=hown.ex;have hd:=D9 (P:=P) (n:=n) (l:=l) (ty:=ty) T Z ht hE hz hzl hby hsz hx hy h1 hr (by rw [sh.len hrep];simp) (sh.one hrep) Ab Ab hB;unfold BE at hd ⊢;intro a dst pos after g next Q ha hn c;refine hd a dst pos after g next Q ha (λv' w' hG=>?_) (λw' hG=>hG.elim);obtain ⟨g1,g2,g,cap',g3,g4⟩:=hG;refine hn v' w' ⟨g,cap',by rw [g3];simp,⟨css++[cs],?_,by simp [h2],λi y ds hy hc=>?_⟩,g2.weaken (λb hb=>h1.ge hb)⟩
 . have e1:(css++[cs]).flatten=css.flatten++cs:=by simp
   have e2:(xs++[z]).length=xs.length+1:=by simp
   rw [e1,e2];exact g1
 . have key:sh.rep w (λb=>B<=b/\v.ownBlock≠some b) y ds:=by
    by_cases hi:i<xs.length
    . rw [gW hi] at hy;rw [gW Ab] at hc;exact h3 i y ds hy hc
    . have hil:i<(xs++[z]).length:=by
       rcases it i (xs++[z]).length with h|h
       . exact h
       . rw [ic h] at hy;cases hy
      simp only [iq,gV,iG] at hil;have hi':i=xs.length:=by omega
      subst hi';rw [ik (ip _)] at hy;rw [ik Ab] at hc;simp only [jw,iw,gU] at hy;rw [h2] at hc;simp only [jw,iw,gU] at hc;subst hy hc;exact hrep
   refine sh.mono (sh.lt key) (λb hb=>⟨hb.1.1,λe=>?_⟩) (λb o u hb hu=>g2.keep hb.1.2 hu);rw [g3] at e;simp only [jB,gU] at e;subst e;rcases g4 with h|h
   . exact hb.1.2 h
   . omega
def Sr {rest:List Oper} {d:Nat} {after:Array Edge} {cap:Nat} {xs:List α} {z:α} {p:Addr} (T:TabOk P tab) (Z:Ct P zt) (ht:AB tab t=some (.slice e,sz)) (hE:AB tab e=some (s,sh.sz)) (hz:CP zt e=some zs) (V:zs.length=sh.sz)
 (X:Dt P e=true) (Y:iE 0 sh.sz=true) (hx:ev l x=some v) (hy:ev l c=some (.slice (some p) 1 cap)) (M:OwnL sh w B e v xs) (hr:Row w p cs) (N:sh.rep w (λb=>B<=b/\v.ownBlock≠some b) z cs) (O:xs.length<=10000000000) (hB:B<=w.heap.size) (hd:iE d n=true)
 (k:∀g G w1,OwnL sh w1 B e (.slice (some ⟨g,0,none⟩) (xs++[z]).length G) (xs++[z])->Fr (B <= ·) w w1->LW P n a Q rest ((d,.slice (some ⟨g,0,none⟩) (xs++[z]).length G)::l) w1) :
 LW P n a Q (⟨some d,.call ⟨.builtin .append,#[x,c],#[t,t]⟩,ty,f,after,none⟩::rest) l w:=
 Ax (GN T Z ht hE hz V X Y hx hy M hr N O hB) hd (λv w1 ⟨g,cap,h,ho,hf⟩=>by subst h;exact k g cap w1 ho hf) aFh
end
section
variable {tab:Tab} {zt:Ey} {ops:Array Oper} {rest:List Oper} {d:Nat} {pos:String} {after:Array Edge}
end
def OwnL.rows {sh:Shape α} {xs:List α} (h:OwnL sh w B e v xs) (hx:xs≠[]):∃g cap,v = .slice (some ⟨g,0,none⟩) xs.length cap/\B<=g /\ ∀(i:Nat) (x:α),xs[i]? = some x -> ∃cs,Row w ⟨g,i*sh.sz,none⟩ cs/\sh.rep w (λb=>B<=b/\b≠g) x cs:=by
 obtain ⟨G,V,h2,X⟩:=h.ex;rcases V.row with ⟨rfl,hn,-⟩|⟨g,cap,rfl,hg,Y,hr⟩
 . exact absurd (List.length_eq_zero_iff.1 hn) hx
 . refine ⟨g,cap,rfl,hg,λi x U=>?_⟩;have ae:i<xs.length:=by
    rcases it i xs.length with h|h
    . exact h
    . rw [ic h] at U;cases U
   have hc:G[i]? = some G[i]:=gN Ab;refine ⟨G[i],?_,sh.mono (X i x _ U hc) (λb hb=>⟨hb.1,λe=>hb.2 (by rw [Y,e])⟩) (λ_ _ _ _ h=>h)⟩;intro j u Z;have M:∀cs∈G,cs.length=sh.sz:=λcs N=>by
    obtain ⟨k,hk,rfl⟩:=List.mem_iff_getElem.1 N;exact sh.len (X k xs[k] G[k] (gN Ab) (gN hk))
   have aa:j<sh.sz:=by
    rw [<-sh.len (X i x _ U hc)];rcases it j G[i].length with h|h
    . exact h
    . rw [ic h] at Z;cases Z
   have O:G.flatten[i*sh.sz+j]? = some u:=by
    have ab:G=G.take i++G[i]::G.drop (i+1):=by
     have V:=(iX i G).symm;rwa [iB Ab] at V
    have ac:G.flatten=(G.take i).flatten++(G[i]++(G.drop (i+1)).flatten):=by
     refine (congrArg List.flatten ab).trans ?_;rw [kB,jS]
    have ad:(G.take i).flatten.length=i*sh.sz:=by
     rw [El (λcs N=>M cs (jz N)),iO];congr 1;omega
    rw [ac,ik Ab,ad,lp,gW (by rw [M _ (ig _)];exact aa)];exact Z
   have:=hr.at (i:=i*sh.sz+j) O;have e:(⟨g,i*sh.sz,none⟩:Addr).add j=⟨g,0+(i*sh.sz+j),none⟩:=by unfold jA;by_cases h0:j=0<;>simp [h0]
   rw [e];exact this
def Gq {S:nP} (t:Nd) (a:oA) (h:t.sits S w a):t.sits (λb=>S b/\b<w.heap.size) w a:=by
 have key:∀N:Nat,(∀(l:List Nd) (a:oA),AV l<N->rowSits S w l a->rowSits (λb=>S b/\b<w.heap.size) w l a):=by
  intro N
  induction N with
  | zero=>intro l a h;omega
  | succ N G=>
   intro l a M h;cases l with
   | nil=>simp [rowSits]
   | cons x r=>
    simp only [rowSits] at h ⊢;obtain ⟨b,o,O,c,rfl,X,U,Y,Z,h3,V,hr⟩:=h;have hb:=Cs U;simp only [AV] at M;have hx:=Nd.size_pos x;obtain ⟨k,n,s,l⟩:=x;simp only [Nd.size] at M;refine ⟨b,o,O,c,rfl,⟨X,hb⟩,U,Y,Z,h3,?_,G r _ Ab hr⟩;simp only [Nd.sits] at V ⊢;exact G l O Ab V
 obtain ⟨k,n,s,l⟩:=t;simp only [Nd.sits] at h ⊢;exact key (AV l+1) l a Ab h
def ndShape:Shape Nd where
 sz:=4
 rep:=λw S t cs=> ∃a c,cs=t.cells a c/\t.sits S w a
 len:=λ⟨_,_,h,_⟩=>by rw [h];rfl
 one:=λ⟨_,_,h,_⟩=>by rw [h];rfl
 mono:=λ⟨a,c,h,hs⟩ hS hc=>⟨a,c,h,Nd.sits_mono hS hc _ a hs⟩
 lt:=λ⟨a,c,h,hs⟩=>⟨a,c,h,Gq _ a hs⟩
def Jd {S:nP} {w:wD} {g:Nat} (N:S g):∀(xs:List Nd) (o:Nat),(∀(i:Nat) (x:Nd),xs[i]? = some x -> ∃a c,Row w ⟨g,o+i*4,none⟩ (x.cells a c)/\x.sits S w a)->rowSits S w xs (some ⟨g,o,none⟩)
 | [],_,_=>by simp [rowSits]
 | x::r,o,h=>by
  simp only [rowSits];obtain ⟨a,c,G,M⟩:=h 0 x rfl;simp only [kZ,jT] at G;refine ⟨g,o,a,c,rfl,N,G.at0 rfl,G.at (i:=1) rfl,G.at (i:=2) rfl,G.at (i:=3) rfl,M,Jd N r (o+4) (λi y O=>?_)⟩;obtain ⟨a,c,G,M⟩:=h (i+1) y (by simpa using O);exact ⟨a,c,by rw [show o+4+i*4=o+(i+1)*4 from by omega];exact G,M⟩
def OwnL.sits {a:oA} {len cap:Nat} {xs:List Nd} {S:nP} (h:OwnL ndShape w B e (.slice a len cap) xs) (M:∀b,B<=b->S b):rowSits S w xs a:=by
 by_cases N:xs=[]
 . subst N;simp [rowSits]
 . obtain ⟨g,O,U,V,G⟩:=h.rows N;simp only [iK] at U;obtain ⟨rfl,-,-⟩:=U;refine Jd (M g V) xs 0 (λi x X=>?_);obtain ⟨cs,Y,a,c,rfl,Z⟩:=G i x X;exact ⟨a,c,by simpa [ndShape] using Y,Nd.sits_mono (λb hb=>M b hb.1) (λ_ _ _ _ h=>h) _ _ Z⟩
def Pc {v0 h G v3:Value} (N:w.cell? ⟨b,o,none⟩=some v0) (O:w.cell? ⟨b,o+1,none⟩=some h) (U:w.cell? ⟨b,o+2,none⟩=some G) (V:w.cell? ⟨b,o+3,none⟩=some v3):Row w ⟨b,o,none⟩ [v0,h,G,v3]:=λi v M=>by
 rcases i with _|_|_|_|i<;>simp at M<;>(subst M;simpa [jA])
def BG {S:nP} {l:List Nd} {a:oA} (h:rowSits S w l a) (N:l≠[]):∃b o,a=some ⟨b,o,none⟩/\S b /\ ∀i t,l[i]? = some t -> ∃G c,Row w ⟨b,o+i*4,none⟩ (t.cells G c)/\t.sits S w G:=by
 cases l with
 | nil=>exact absurd rfl N
 | cons x r=>
  obtain ⟨b,o,G,c,rfl,O,-⟩:=FQ h (i:=0) (t:=x) rfl;refine ⟨b,o,rfl,O,λi t U=>?_⟩;obtain ⟨b',o',G,c,M,-,V,X,Y,Z,hs⟩:=FQ h U;simp only [gU,jW] at M;obtain ⟨rfl,rfl,-⟩:=M;exact ⟨G,c,Pc V X Y Z,hs⟩
def TP {S:nP} {n:Int} {s:lB} {l:List Nd} {a:oA} (h:rowSits S w l a):(Nd.mk k n s l).sits S w a:=by simp only [Nd.sits];exact h
def OwnL.lt {sh:Shape α} {xs:List α} (h:OwnL sh w B e v xs) {k:Nat} (G:v.ownBlock=some k):k<w.heap.size:=by
 obtain ⟨M,N,-⟩:=h.ex;exact (N.blk G).2
def WB {S:nP} {n:Int} {s:lB} {a:oA}:(Nd.mk k n s []).sits S w a:=by simp [Nd.sits,rowSits]
def Nd.sits.wide {S:nP} {t:Nd} {a:oA} (h:t.sits S w a) (G:∀b,S b->S' b):t.sits S' w a:=Nd.sits_mono G (λ_ _ _ _ h=>h) t a h
section
variable {S:nP} {n:Int} {s:lB} {x z u:Nd} {ya za ua:oA} {xc yc zc uc:Nat}
def Blk.sub {vs:lV} (h:Blk w b vs) (i m:Nat):Row w ⟨b,i,none⟩ ((vs.drop i).take m):=by
 have:=h.row.sub i m;simpa using this
end
def YR {us:lV} (O:Row w ⟨b,o,none⟩ us) (U:Row w ⟨b,o+us.length,none⟩ vs):Row w ⟨b,o,none⟩ (us++vs):=λi v G=>by
 rcases it i us.length with M|N
 . rw [gW M] at G;exact O i v G
 . rw [ik N] at G;have h:=U.at G;have e:(⟨b,o,none⟩:Addr).add i=⟨b,o+i,none⟩:=by unfold jA;by_cases V:i=0<;>simp [V]
   rw [e,show o+i=o+us.length+(i-us.length) by omega];exact h
def KG (w:wD) (t ty e:TypeId) (i:TypeInfo) (h:P.underlying t=some (.slice e)) (G:P.info? e=some i) (g n cap c:Nat) (M:n<=cap) :
 (Builtin.append_ #[t,t] ty #[.slice (some ⟨g,0,none⟩) n cap,.slice none 0 c]).run P w = .ok (.slice (some ⟨g,0,none⟩) n cap) w:=by
 simp [Builtin.append_,AD h,Go.sizeOf,typeInfo,G,Builtin.lenOf,Builtin.firstCells,M,storeCells]
def Gd (K:Value->wD->Prop):Option Value->wD->Prop
 | some v,w=>K v w
 | none,_=>False
section
variable {tab:Tab} {zt:Ey}
end
abbrev VD.cells (v:VD):lV:=[str v.name,.int .u8 v.kind,.int .i64 v.len]
abbrev VD.val (v:VD):Value:=.agg #[str v.name,.int .u8 v.kind,.int .i64 v.len]
def fU (w:wD) (b o:Nat) (v:VD):Prop:=Row w ⟨b,o,none⟩ v.cells
def VDs (S:nP) (w:wD) (l:List VD) (a:oA):Prop:=Arr S 3 fU w l a
abbrev PD.cells (p:PD) (pa:oA) (pc:Nat) (ba:oA) (bc:Nat):lV:=[str p.name,.slice pa p.params.length pc,.int .u8 p.body.kind,.int .i64 p.body.num,str p.body.name,.slice ba p.body.kids.length bc]
def dX (S:nP) (w:wD) (b o:Nat) (p:PD):Prop:= ∃pa pc ba bc,Row w ⟨b,o,none⟩ (p.cells pa pc ba bc)/\VDs S w p.params pa/\p.body.sits S w ba
def PDs (S:nP) (w:wD) (l:List PD) (a:oA):Prop:=Arr S 6 (dX S) w l a
def VDs.ext {S:nP} {w w':wD} {l:List VD} {a:oA} (h:VDs S w l a) (x:Ext w w'):VDs S w' l a:=h.mono aFh (λ_ _ _ _ _ h=>Row.ext h x)
instance {S:nP} {l:List VD} {a:oA}:LfE w w' (VDs S w l a) (VDs S w' l a):=⟨λx h=>Bk.VDs.ext h x⟩
def PDs.ext {S:nP} {w w':wD} {l:List PD} {a:oA} (h:PDs S w l a) (x:Ext w w'):PDs S w' l a:=
 h.mono aFh (λ_ _ _ _ _ ⟨G,pc,ba,bc,h1,h2,h3⟩=>⟨G,pc,ba,bc,h1.ext x,h2.ext x,h3.ext x⟩)
instance {S:nP} {l:List PD} {a:oA}:LfE w w' (PDs S w l a) (PDs S w' l a):=⟨λx h=>Bk.PDs.ext h x⟩
abbrev PG.cells (g:PG) (va:oA) (vc:Nat) (pa:oA) (pc:Nat) (ma:oA) (mc:Nat):lV:=
 [.slice va g.vars.length vc,.slice pa g.procs.length pc,.int .u8 g.main.kind,.int .i64 g.main.num,str g.main.name,.slice ma g.main.kids.length mc]
structure PG.sits (S:nP) (w:wD) (g:PG) (va pa ma:oA):Prop where
 vars:VDs S w g.vars va
 procs:PDs S w g.procs pa
 main:g.main.sits S w ma
def PG.sits.ext {S:nP} {w w':wD} {g:PG} {G M N:oA} (h:g.sits S w G M N) (x:Ext w w'):g.sits S w' G M N:=⟨h.vars.ext x,h.procs.ext x,h.main.ext x⟩
instance {S:nP} {g:PG} {M N:oA}:LfE w w' (g.sits S w xa M N) (g.sits S w' xa M N):=⟨λx h=>Bk.PG.sits.ext h x⟩
def VDs.fr {S T:nP} {w w':wD} {l:List VD} {a:oA} (h:VDs S w l a) (x:Fr T w w') (G:∀b,S b -> ¬T b):VDs S w' l a:=h.mono aFh (λb _ _ _ M h=>Row.fr h x (G b M))
instance {S:nP} {l:List VD} {a:oA}:LfF T w w' (VDs S w l a) (∀b,S b -> ¬T b) (VDs S w' l a):=⟨λx s h=>Bk.VDs.fr h x s⟩
def PDs.fr {S T:nP} {w w':wD} {l:List PD} {a:oA} (h:PDs S w l a) (x:Fr T w w') (G:∀b,S b -> ¬T b):PDs S w' l a:=
 h.mono aFh (λb _ _ _ M ⟨N,pc,ba,bc,h1,h2,h3⟩=>⟨N,pc,ba,bc,h1.fr x (G b M),h2.fr x G,h3.fr x G⟩)
instance {S:nP} {l:List PD} {a:oA}:LfF T w w' (PDs S w l a) (∀b,S b -> ¬T b) (PDs S w' l a):=⟨λx s h=>Bk.PDs.fr h x s⟩
def PG.sits.fr {S T:nP} {w w':wD} {g:PG} {G M N:oA} (h:g.sits S w G M N) (x:Fr T w w') (O:∀b,S b -> ¬T b):g.sits S w' G M N:=⟨h.vars.fr x O,h.procs.fr x O,h.main.fr x O⟩
instance {S:nP} {g:PG} {M N:oA}:LfF T w w' (g.sits S w xa M N) (∀b,S b -> ¬T b) (g.sits S w' xa M N):=⟨λx s h=>Bk.PG.sits.fr h x s⟩
def VDs.wide {S:nP} {l:List VD} {a:oA} (h:VDs S w l a) (G:∀b,S b->S' b):VDs S' w l a:=h.mono G (λ_ _ _ _ _ h=>h)
def PDs.wide {S S':nP} {w:wD} {l:List PD} {a:oA} (h:PDs S w l a) (G:∀b,S b->S' b):PDs S' w l a:=
 h.mono G (λ_ _ _ _ _ ⟨M,pc,ba,bc,h1,h2,h3⟩=>⟨M,pc,ba,bc,h1,h2.wide G,h3.wide G⟩)
def PG.sits.wide {S S':nP} {w:wD} {g:PG} {M N O:oA} (h:g.sits S w M N O) (G:∀b,S b->S' b):g.sits S' w M N O:=⟨h.vars.wide G,h.procs.wide G,h.main.wide G⟩
def Mg (h:Row w ⟨b,o,none⟩ vs) (G:∀o v,w.cell? ⟨b,o,none⟩=some v->w'.cell? ⟨b,o,none⟩=some v):Row w' ⟨b,o,none⟩ vs:=λi v M=>by
 have:=h.at M;have e:(⟨b,o,none⟩:Addr).add i=⟨b,o+i,none⟩:=by unfold jA;by_cases N:i=0<;>simp [N]
 rw [e];exact G _ _ this
def VDs.move {S:nP} {l:List VD} {a:oA} (h:VDs S w l a) (G:∀b,S b->S' b) (M:∀b o v,S b->w.cell? ⟨b,o,none⟩=some v->w'.cell? ⟨b,o,none⟩=some v):VDs S' w' l a:=
 h.mono G (λb o x _ N h=>Mg h (λo v=>M b o v N))
def VDs.lt2 {S:nP} {l:List VD} {a:oA} (h:VDs S w l a):VDs (λb=>S b/\b<w.heap.size) w l a:=by
 rcases h with h|⟨b,o,M,N,G⟩
 . exact gP h
 . cases l with
   | nil=>exact gP rfl
   | cons v r=>exact gQ ⟨b,o,M,⟨N,Cs (Row.at0 (G 0 v rfl) rfl)⟩,G⟩
def Ss:1<=maxLen:=by unfold maxLen;omega
def Rows (S:nP) (w:wD) (cs:lV) (a:oA):Prop:=cs=[] \/ ∃b o,a=some ⟨b,o,none⟩/\S b/\Row w ⟨b,o,none⟩ cs
section
variable {S:nP} {a:oA}
def Rows.ext (h:Rows S w cs a) (x:Ext w w'):Rows S w' cs a:=h.imp id λ⟨b,o,h1,h2,h3⟩=>⟨b,o,h1,h2,h3.ext x⟩
instance  : LfE w w' (Rows S w cs a) (Rows S w' cs a):=⟨λx h=>Bk.Rows.ext h x⟩
def Rows.fr (h:Rows S w cs a) (x:Fr T w w') (G:∀b,S b -> ¬T b):Rows S w' cs a:=h.imp id λ⟨b,o,h1,h2,h3⟩=>⟨b,o,h1,h2,h3.fr x (G b h2)⟩
instance  : LfF T w w' (Rows S w cs a) (∀b,S b -> ¬T b) (Rows S w' cs a):=⟨λx s h=>Bk.Rows.fr h x s⟩
def Rows.wide (h:Rows S w cs a) (G:∀b,S b->S' b):Rows S' w cs a:=h.imp id λ⟨b,o,h1,h2,h3⟩=>⟨b,o,h1,G b h2,h3⟩
def Rows.lt2 (h:Rows S w cs a):Rows (λb=>S b/\b<w.heap.size) w cs a:=by
 rcases h with h|⟨b,o,M,N,G⟩
 . exact gP h
 . cases cs with
   | nil=>exact gP rfl
   | cons v r=>exact gQ ⟨b,o,M,⟨N,Cs (Row.at0 G rfl)⟩,G⟩
def Rows.ltA (h:Rows S w cs a):Rows (· < w.heap.size) w cs a:=h.lt2.wide λ_ h=>h.2
def Rows.get (h:Rows S w cs a) (G:cs≠[]):∃b o,a=some ⟨b,o,none⟩/\S b/\Row w ⟨b,o,none⟩ cs:=h.resolve_left G
def Rows.move (h:Rows S w cs a) (G:∀b,S b->S' b) (M:∀b o v,S b->w.cell? ⟨b,o,none⟩=some v->w'.cell? ⟨b,o,none⟩=some v):Rows S' w' cs a:=
 h.imp id λ⟨b,o,h1,h2,h3⟩=>⟨b,o,h1,G b h2,Mg h3 (λo v=>M b o v h2)⟩
end
def OwnF (e sz B:Nat) (w:wD) (g cap n:Nat) (cs:lV):Prop:=B<=g/\Own w g e sz (.slice (some ⟨g,0,none⟩) n cap) n cs
def OwnF.lt {g cap:Nat} (h:OwnF e sz B w g cap n cs):g<w.heap.size:=(h.2.blk (k:=g) rfl).2
def OwnF.row {e sz B:Nat} {w:wD} {g cap n:Nat} {cs:lV} (h:OwnF e sz B w g cap n cs):Row w ⟨g,0,none⟩ cs:=by
 rcases h.2.row with ⟨G,-⟩|⟨g',M,G,-,-,N⟩
 . simp at G
 . simp only [iK,gU,jW,and_true] at G;obtain ⟨rfl,-⟩:=G;exact N
def OwnF.rows {g cap:Nat} {S:nP} (h:OwnF e sz B w g cap n cs) (G:S g):Rows S w cs (some ⟨g,0,none⟩):=gQ ⟨g,0,rfl,G,h.row⟩
def OwnF.le {g cap:Nat} (h:OwnF e sz B w g cap n cs):n<=cap:=by
 rcases h.2.2 with ⟨G,-⟩|⟨g',M,cur,G,-,-,N,-⟩
 . simp at G
 . simp only [iK] at G;obtain ⟨-,-,rfl⟩:=G;exact N
section
variable {tab:Tab} {zt:Ey}
def JQ (T:TabOk P tab) (ht:AB tab t=some (.slice e,b)) (hE:AB tab e=some (s,sz)) (hB:B<=w.heap.size) :
 BE P n l (.buildSlice t 0 #[]) ty w (Gd λo w'=> ∃g,o = .slice (some ⟨g,0,none⟩) 0 0/\OwnF e sz B w' g 0 0 []/\w.heap.size<=g/\g<w'.heap.size/\Ext w w'):=by
 unfold BE;intro a dst pos after g next Q ha hn _;obtain ⟨i,hi,hs⟩:=(T _ _ _ hE).info;have hu:=(T _ _ _ ht).under;have e1:(Instr.buildSlice t 0 #[]).run P w = .ok (.slice (some ⟨w.heap.size,0,none⟩) 0 0) (w.alloc (.cells #[] e)):=by
  simp [Instr.buildSlice,AD hu,Go.sizeOf,typeInfo,hi,Instr.fill,newRow,show Array.range 0 = #[] from rfl]
 have e2:(execOp a.eval ⟨dst,.buildSlice t 0 #[],ty,pos,after,g⟩).run P w = .ok (.value (.slice (some ⟨w.heap.size,0,none⟩) 0 0)) (w.alloc (.cells #[] e)):=by
  simp [execOp,ij,e1,jq]
 unfold jy;rw [e2];have hx:Ext w (w.alloc (.cells #[] e)):=(EB w [] e).ext;refine hn _ _ ⟨w.heap.size,rfl,⟨hB,AK,gQ ⟨w.heap.size,0,#[],rfl,ip _,?_,ip _,by unfold maxLen;omega,AK,AK⟩⟩,ip _,?_,hx⟩
 . rw [show (w.alloc (Obj.cells #[] e)).heap=w.heap.push (.cells #[] e) from rfl];simp
 . rw [show (w.alloc (Obj.cells #[] e)).heap=w.heap.push (.cells #[] e) from rfl];simp
def JR {g cap c k m:Nat} {a:oA} {S:nP} (T:TabOk P tab) (Z:Ct P zt) (ht:AB tab t=some (.slice e,b)) (hE:AB tab e=some (s,sz)) (hz:CP zt e=some zs) (hzl:zs.length=sz)
 (hby:Dt P e=true) (hsz:iE 0 sz=true) (hx:ev l x=some (.slice (some ⟨g,0,none⟩) k cap)) (hy:ev l z=some (.slice a m c)) (hown:OwnF e sz B w g cap k cs) (hs:Rows S w vs a) (hl:vs.length=m*sz) (hone:vs.all Value.one=true) (hkm:k+m<=100000000000) :
 BE P n l (.call ⟨.builtin .append,#[x,z],#[t,t]⟩) ty w (Gd λo w'=> ∃g' cap',o = .slice (some ⟨g',0,none⟩) (k+m) cap'/\OwnF e sz B w' g' cap' (k+m) (cs++vs)/\(g'=g\/w.heap.size<=g')/\g'<w'.heap.size/\Fr (λk=>k=g) w w'):=by
 have hlt:=hown.lt;have hncap:=hown.le;obtain ⟨h0,h1⟩:=hown;have hsz':0<sz:=by simpa using hsz
 by_cases hm:m=0
 . subst hm;have d:vs=[]:=by simpa using hl
   subst d;unfold BE;intro act dst pos after gd next Q ha hn _;obtain ⟨i,hi,hsz⟩:=(T _ _ _ hE).info;have hun:=(T _ _ _ ht).under;have key:∃w',(Builtin.append_ #[t,t] ty #[.slice (some ⟨g,0,none⟩) k cap,.slice a 0 c]).run P w = .ok (.slice (some ⟨g,0,none⟩) k cap) w'/\Own w' g e sz (.slice (some ⟨g,0,none⟩) k cap) k cs/\Fr (λk=>k=g) w w':=by
    cases a with
    | none=>exact ⟨w,KG w t ty e i hun hi g k cap c hncap,h1,.of_ext (Ext.refl w)⟩
    | some p=>
     obtain ⟨w',r1,r2,r3⟩:=run_append_fits (P:=P) w g t ty e i sz hun hi hsz g k cap cs h1 p 0 c [] AK (λj u hj=>by simp at hj) (λu hu=>by cases hu) Ab;refine ⟨w',by simpa using r1,by simpa using r2,?_⟩;have:=Fr.of_grown r3;exact this.weaken (λb hb=>by simpa using hb)
   obtain ⟨w',hrun,ho,hf⟩:=key;have e1:(execOp act.eval ⟨dst,.call ⟨.builtin .append,#[x,z],#[t,t]⟩,ty,pos,after,gd⟩).run P w = .ok (.value (.slice (some ⟨g,0,none⟩) k cap)) w':=by
    simp only [execOp,resolve,invoke,builtin,ij,iC,jq,ln,iR,ky,ha.ev hx,ha.ev hy,hrun]
   unfold jy;rw [e1];have hsz':=hf.size;exact hn _ _ ⟨g,cap,AK,⟨h0,by simpa using ho⟩,gP rfl,Ab,hf⟩
 . have hdn:vs≠[]:=by
    rintro rfl;simp only [iG] at hl;have:=Nat.mul_pos (Nat.pos_of_ne_zero hm) hsz';omega
   obtain ⟨pb,po,rfl,-,d1⟩:=hs.get hdn;have hd:=D9 (P:=P) (n:=n) (l:=l) (ty:=ty) T Z ht hE hz hzl hby hsz hx hy h1 d1 hl hone Ab Ab Ab;unfold BE at hd ⊢;intro act dst pos after gd next Q ha hn q;refine hd act dst pos after gd next Q ha (λv' w' hG=>?_) (λw' hG=>hG.elim);obtain ⟨g1,g2,g',cap',g3,g4⟩:=hG;have hf:Fr (λk=>k=g) w w':=g2.weaken (λb hb=>by simpa [jB] using hb.symm);subst g3;have hgg:=g1.blk (k:=g') rfl;refine hn _ w' ⟨g',cap',rfl,⟨Ab,?_⟩,?_,hgg.2,hf⟩
   . obtain ⟨k1,k2|⟨g2',f,cur,k3,k4,k5⟩⟩:=g1
     . simp at k2
     . simp only [iK,gU,jW,and_true,true_and] at k3;obtain ⟨rfl,rfl⟩:=k3;exact ⟨k1,gQ ⟨g',cap',cur,rfl,ip _,k5⟩⟩
   . rcases g4 with h|h
     . simp only [jB,gU] at h;exact gP h.symm
     . exact gQ h
end
def N4 {α:Type} {f:α->lV} {sz:Nat} (G:∀x,(f x).length=sz) {w:wD} {b:Nat}:∀(l:List α) (o:Nat),(∀(i:Nat) (x:α),l[i]? = some x->Row w ⟨b,o+i*sz,none⟩ (f x))->Row w ⟨b,o,none⟩ (l.flatMap f)
 | [],o,_=>λi v M=>by simp at M
 | x::r,o,h=>by
  rw [jU];refine YR (by simpa using h 0 x rfl) ?_;rw [G x];refine N4 G r (o+sz) (λi y N=>?_);have:=h (i+1) y N;rw [show o+sz+i*sz=o+(i+1)*sz by rw [jQ];omega];exact this
def N5 {α:Type} {f:α->lV} {sz:Nat} (U:∀x,(f x).length=sz) {w:wD} {b:Nat}:∀(l:List α) (o:Nat),Row w ⟨b,o,none⟩ (l.flatMap f) -> ∀(i:Nat) (x:α),l[i]? = some x->Row w ⟨b,o+i*sz,none⟩ (f x)
 | [],_,_,i,x,G=>by simp at G
 | y::r,o,h,i,x,G=>by
  rw [jU] at h;cases i with
  | zero=>
   simp only [iw,gU] at G;subst G;intro j v M;have N:j<(f y).length:=by
    rcases it j (f y).length with O|O
    . exact O
    . rw [ic O] at M;cases M
   have:=h j v (by rw [gW N];exact M);simpa using this
  | succ i=>
   simp only [kI] at G;have V:Row w ⟨b,o+sz,none⟩ (r.flatMap f):=by
    have:=h.sub sz (r.flatMap f).length;rw [List.drop_left' (U y),im] at this;exact this
   have:=N5 U r (o+sz) V i x G;rw [show o+(i+1)*sz=o+sz+i*sz by rw [jQ];omega];exact this
def Hl {α:Type} {f:α->lV} {sz:Nat} (h:∀x,(f x).length=sz):∀l:List α,(l.flatMap f).length=l.length*sz
 | []=>by simp
 | x::r=>by rw [jU,iq,h x,Hl h r,gV,jQ];omega
def Ld {α:Type} {f:α->lV} (h:∀x,(f x).all Value.one=true):∀l:List α,(l.flatMap f).all Value.one=true
 | []=>rfl
 | x::r=>by rw [jU,ly,h x,Ld h r];rfl
def N6 {tab:Tab} {ty:Nat} {a:oA} {m c:Nat} (T:TabOk P tab) (G:AB tab t=some (.slice e,sz)) (M:ev l x=some (.slice a m c)):Br P n l S (.binOp .eql t x (.const (.slice none 0 0)) t') ty (.bool a.isNone):=by
 unfold Br;intro h w N pos after g O _;have U:P.underlying t=some (.slice e):=(T _ _ _ G).under;have V:(eqGuard .eql t x (.const (.slice none 0 0)) (.slice a m c) (.slice none 0 0)).run P w = .ok () w:=by unfold eqGuard;simp
 have X:(Op.equal t (.slice a m c) (.slice none 0 0)).run P w = .ok a.isNone w:=by
  show (Op.equalIn (9999+1) t (.slice a m c) (.slice none 0 0)).run P w=_;unfold Op.equalIn;cases a<;>simp [AD U,gY]
 have Y:h.eval (.const (.slice none 0 0)) = .slice none 0 0:=rfl;simp [execOp,O.ev M,Y,V,X,binOp]
def Mh {tab:Tab} {ty:Nat} {m c:Nat} (T:TabOk P tab) (h:AB tab t=some (.slice e,sz)) (G:ev l x=some (.slice none m c)):Br P n l S (.binOp .eql t x (.const (.slice none 0 0)) t') ty (.bool true):=N6 T h G
def Mi {tab:Tab} {ty:Nat} {p:Addr} {m c:Nat} (T:TabOk P tab) (h:AB tab t=some (.slice e,sz)) (G:ev l x=some (.slice (some p) m c)):Br P n l S (.binOp .eql t x (.const (.slice none 0 0)) t') ty (.bool false):=N6 T h G
end Bk
namespace Go.Proofs
open Go.Shelf
def Tryz.lays137_ren:Go.Shelf.Ren:=⟨fun|137=>114|217=>155|266=>183|n=>n,fun|9=>9|5=>5|3=>3|n=>n,fun|n=>n⟩
def Tryz.lays137:Go.Proofs.Lays.n137 prog Tryz.lays137_ren:={
 mixed:=by kernel_rfl
 f137:=func114.trans (congrArg some (by kernel_rfl))
 f217:=func155.trans (congrArg some (by kernel_rfl))
 f266:=func183.trans (congrArg some (by kernel_rfl))
 t3:=underlying3
 a3:=isAgg3
 z3:=sizeOf3
 v3:=zeroValue3
 t5:=underlying5
 a5:=isAgg5
 z5:=sizeOf5
 v5:=zeroValue5
 t9:=underlying9
 a9:=isAgg9
 z9:=sizeOf9
 v9:=zeroValue9 }
open Go.RowKit in
def Tryz.strings_IndexByte (s:ByteArray) (c:Int) (w:World) :
 Calls prog 114 #[.string s,.int .u8 c] w λe w'=>e = .returned (.int .i64 (Lib.indexByte s.data.toList c.toNat.toUInt8))/\w'=w:=Any.strings_IndexByte Tryz.lays137 s c w
def Tryz.lays129_ren:Go.Shelf.Ren:=⟨fun|129=>101|n=>n,fun|53=>162|3=>3|4=>4|46=>124|5=>5|9=>9|n=>n,fun|n=>n⟩
def Tryz.lays129:Go.Proofs.Lays.n129 prog Tryz.lays129_ren:={
 mixed:=by kernel_rfl
 f129:=func101.trans (congrArg some (by kernel_rfl))
 t3:=underlying3
 a3:=isAgg3
 z3:=sizeOf3
 v3:=zeroValue3
 t4:=underlying4
 a4:=isAgg4
 z4:=sizeOf4
 v4:=zeroValue4
 t5:=underlying5
 a5:=isAgg5
 z5:=sizeOf5
 v5:=zeroValue5
 t9:=underlying9
 a9:=isAgg9
 z9:=sizeOf9
 v9:=zeroValue9
 t46:=underlying124
 a46:=isAgg124
 z46:=sizeOf124
 v46:=zeroValue124
 t53:=underlying162
 a53:=isAgg162
 z53:=sizeOf162
 v53:=zeroValue162 }
def Tryz.bits_Len64 (x:Int) (w:World) (h:0<=x) (G:x<=18446744073709551615) :
 Calls prog 101 #[.int .u64 x] w λe w'=>e = .returned (.int .i64 (Lib.bitLen x.toNat))/\w'=w:=Any.bits_Len64 Tryz.lays129 x w h G
def Tryz.lays99_ren:Go.Shelf.Ren:=⟨fun|99=>113|206=>154|n=>n,fun|9=>9|4=>4|3=>3|n=>n,fun|n=>n⟩
def Tryz.lays99:Go.Proofs.Lays.n99 prog Tryz.lays99_ren:={
 mixed:=by kernel_rfl
 f99:=func113.trans (congrArg some (by kernel_rfl))
 f206:=func154.trans (congrArg some (by kernel_rfl))
 t3:=underlying3
 a3:=isAgg3
 z3:=sizeOf3
 v3:=zeroValue3
 t4:=underlying4
 a4:=isAgg4
 z4:=sizeOf4
 v4:=zeroValue4
 t9:=underlying9
 a9:=isAgg9
 z9:=sizeOf9
 v9:=zeroValue9 }
open Go.RowKit Go.Lib in
def Tryz.strings_HasPrefix (s p:ByteArray) (w:World) :
 Calls prog 113 #[.string s,.string p] w λe w'=>e = .returned (.bool (Lib.hasPrefix s.data.toList p.data.toList))/\w'=w:=Any.strings_HasPrefix Tryz.lays99 s p w
end Go.Proofs
namespace Bk
open Go Go.RowKit Go.Proofs
def TQ {k:IntKind} {a b:Int} (h:a=b):Ending.returned (.int k a) = .returned (.int k b):=by rw [h]
def AX {a b:Bool} (h:a=b):Ending.returned (.bool a) = .returned (.bool b):=by rw [h]
def Qm (c:UInt8) (w:wD):Calls prog 75 #[.int .u8 c.toNat] w λe w'=>e = .returned (.bool (I7 c))/\w=w':=by
 go_enter func75,ntmps75
 go_wp2_with fail
 all_goals go_ret
 all_goals (refine ⟨AX ?_,rfl⟩;unfold I7;rw [jH];simp;try omega)
def Pd (c:UInt8) (w:wD):Calls prog 78 #[.int .u8 c.toNat] w λe w'=>e = .returned (.bool (JM c))/\w=w':=by
 go_enter func78,ntmps78
 go_wp2_with fail
 all_goals go_ret
 all_goals (refine ⟨AX ?_,rfl⟩;unfold JM;rw [jH];simp;try omega)
def TR (c:UInt8) (w:wD):Calls prog 79 #[.int .u8 c.toNat] w λe w'=>e = .returned (.bool (La c))/\w=w':=by
 go_enter func79,ntmps79
 go_wp2_with fail
 all_goals go_ret
 all_goals (refine ⟨AX ?_,rfl⟩;unfold La;rw [jH];simp;try omega)
def YS (c:UInt8) (w:wD):Calls prog 80 #[.int .u8 c.toNat] w λe w'=>e = .returned (.bool (Qk c))/\w=w':=by
 go_enter func80,ntmps80
 go_wp2_with fail
 all_goals go_ret
 all_goals (refine ⟨AX ?_,rfl⟩;unfold Qk;rw [jH];simp;try omega)
def UI (c:UInt8) (w:wD):Calls prog 77 #[.int .u8 c.toNat] w λe w'=>e = .returned (.bool (JN c))/\w=w':=by
 go_enter func77,ntmps77
 cases hl:I7 c
 all_goals have HL:=gO hl;clear hl
 all_goals go_wp2_with (first|(go_at_call 75;refine (Qm c _).mono ?_;rintro e w' ⟨rfl,rfl⟩;rw [HL.out])|(go_at_call 78;refine (Pd c _).mono ?_;rintro e w' ⟨rfl,rfl⟩))
 all_goals go_ret
 all_goals (refine ⟨AX ?_,rfl⟩;unfold JN;rw [HL.out];simp)
def Pe (f:FuncId) (p:UInt8->Bool) (hp:∀(c:UInt8) (w:wD),Calls prog f #[.int .u8 c.toNat] w λe w'=>e = .returned (.bool (p c))/\w=w')
 (he:∀args w,(callFunc f args).run prog w = .ok (.enter f args) w) (s:lB) (w:wD) (hs:s.length<=9223372036854775807) :
 Calls prog 76 #[str s,.func (.func f) #[] #[]] w λe w'=>e = .returned (.int .i64 (I8 p s))/\w=w':=by
 have HP:=gO hp;clear hp
 go_enter func76,ntmps76
 go_wp2_with fail
 go_loop [8] (λi=> ∃j:Nat,j<=s.length/\i = .int .i64 j/\Hid (I8 p s=j+I8 p (s.drop j))) (λi=>s.length-(RowKit.intOf i).toNat)
 case atStart=>exact ⟨0,ii _,rfl,gO (by simp)⟩
 case round=>
  obtain ⟨j,hj,rfl,HJ⟩:=hrel
  by_cases hlt:j<s.length
  . go_wp2_with fail
    refine (HP.out s[j] _).mono ?_;rintro e w' ⟨rfl,rfl⟩;have hd:=iB hlt
    have hsp:I8 p (s.drop j)=if p s[j] then 1+I8 p (s.drop (j+1)) else 0:=by
     rw [hd];unfold I8;rw [List.takeWhile_cons];split<;>simp;omega
    have HSP:=gO hsp;clear hsp hd
    cases hb:p s[j]
    . have HB:=gO hb;clear hb
      go_wp2_with fail
      go_ret
      refine ⟨TQ ?_,rfl⟩
      rw [HJ.out,HSP.out,HB.out];simp
    . have HB:=gO hb;clear hb
      go_wp2_with fail
      go_round
      case rel=>exact ⟨j+1,by omega,by go_num,gO (by rw [HJ.out,HSP.out,HB.out];simp;omega)⟩
      case measure=>simp [RowKit.intOf];omega
  . go_wp2_with fail
    go_ret
    refine ⟨TQ ?_,rfl⟩
    rw [HJ.out,jd (by omega)];simp [I8];omega
def WC (s:lB) (n:Int) (G:n.toNat=min 2 s.length):(⟨s.toArray⟩:ByteArray).extract 0 n.toNat=⟨(s.take 2).toArray⟩:=by
 apply ByteArray.ext;rw [G];simp only [ByteArray.data_extract];apply lg;simp only [List.extract_toArray,List.extract_eq_take_drop,jM,jE];rcases Nat.le_total 2 s.length with h|h
 . rw [kY h]
 . rw [Nat.min_eq_right h,ki h,im]
def JS:∀(l:lB) (c:UInt8),-1<=Lib.indexByte l c
 | [],c=>by simp [Lib.indexByte]
 | b::l,c=>by
  have:=JS l c;unfold Lib.indexByte;split
  . omega
  . split<;>omega
def Fz:∀(l:lB) (c:UInt8),(0<=Lib.indexByte l c)↔l.contains c=true
 | [],c=>by simp [Lib.indexByte]
 | b::l,c=>by
  have M:=Fz l c;have N:=JS l c;unfold Lib.indexByte;rw [lI];by_cases h:b=c
  . simp [h]
  . have G:¬c=b:=λe=>h e.symm
    simp only [beq_iff_eq,h,G,if_false,jc,false_or,<-M];split<;>omega
def bK (c:UInt8) (r:lB) (w:wD) (hs:(c::r).length<=9223372036854775807) :
 Calls prog 81 #[str (c::r)] w λe w'=>e = .returned (.int .i64 (LS (c::r)))/\w=w':=by
 simp only [gV] at hs;have hx:=WC (c::r) (min 2 ((r.length:Int)+1)) (by simp only [gV];omega)
 have hsl:LS (c::r)=if List.isPrefixOf [60,61,62] (c::r) then 3 else if pairs.contains ((c::r).take 2) then 2 else if singles.contains c then 1 else 0:=rfl
 have HSL:=gO hsl;clear hsl
 generalize (c::r).take 2=t at *
 cases h3:List.isPrefixOf [60,61,62] (c::r)
 . have H3:=gO h3;clear h3
   cases hp:pairs.contains t
   . have HP:=gO hp
     simp only [pairs,lI,List.contains_nil,Bool.or_eq_false_iff,Bool.or_false] at hp;obtain ⟨p0,p1,p2,p3,p4,p5,p6,p7,p8,p9⟩:=hp
     go_enter func81,ntmps81
     go_wp2_with (go_at_call 113;refine (Tryz.strings_HasPrefix _ _ _).mono ?_;rintro e w' ⟨rfl,rfl⟩;rw [show Lib.hasPrefix (⟨(c::r).toArray⟩:ByteArray).data.toList (⟨#[60,61,62]⟩:ByteArray).data.toList=false from H3.out])
     refine (Tryz.strings_IndexByte _ _ _).mono ?_;rintro e w2 ⟨rfl,rfl⟩
     have e0:(((c.toNat:Nat):Int)).toNat.toUInt8=c:=by simp
     have e1:∀h,(((((⟨(c::r).toArray⟩:ByteArray)[0]'h).toNat:Nat):Int)).toNat.toUInt8=c:=λ_=>e0
     rw [e1];have hi:=Fz singles c;rw [show Lib.indexByte (⟨#[43,45,42,47,37,38,124,94,33,61,60,62,40,41,123,125,91,93,59,44]⟩:ByteArray).data.toList c=Lib.indexByte singles c from rfl]
     generalize Lib.indexByte singles c=ix at *
     cases hc:singles.contains c
     . have hlt:ix<0:=by rw [hc] at hi;simp at hi;omega
       have HC:=gO hc;clear hc hi
       simp only
       go_wp2_with fail
       go_ret
       rw [HSL.out,H3.out,HP.out,HC.out];exact ⟨rfl,rfl⟩
     . have hge:0<=ix:=hi.2 hc
       have HC:=gO hc;clear hc hi
       simp only
       go_wp2_with fail
       go_ret
       rw [HSL.out,H3.out,HP.out,HC.out];exact ⟨rfl,rfl⟩
   . go_enter func81,ntmps81
     go_wp2_with (go_at_call 113;refine (Tryz.strings_HasPrefix _ _ _).mono ?_;rintro e w' ⟨rfl,rfl⟩;rw [show Lib.hasPrefix (⟨(c::r).toArray⟩:ByteArray).data.toList (⟨#[60,61,62]⟩:ByteArray).data.toList=false from H3.out])
     all_goals first|(go_ret;rw [HSL.out,H3.out,hp];exact ⟨rfl,rfl⟩)|(exfalso;simp_all [pairs];done)
 . have H3:=gO h3;clear h3
   go_enter func81,ntmps81
   go_wp2_with (go_at_call 113;refine (Tryz.strings_HasPrefix _ _ _).mono ?_;rintro e w' ⟨rfl,rfl⟩;rw [show Lib.hasPrefix (⟨(c::r).toArray⟩:ByteArray).data.toList (⟨#[60,61,62]⟩:ByteArray).data.toList=true from H3.out])
   go_ret
   rw [HSL.out,H3.out];exact ⟨rfl,rfl⟩
def CC:List lB->Nat->List MapEntry
 | [],_=>[]
 | k::r,i=>{ key:=str k,val:=.bool true,born:=i }::CC r (i+1)
def Em (ks:List lB):Obj:=.map (CC ks 0).toArray ks.length
def Mj (h:List lB) (k:lB):∀i,CC (h++[k]) i=CC h i++[{ key:=str k,val:=.bool true,born:=i+h.length }]:=by
 induction h with
 | nil=>intro i;simp [CC]
 | cons x r G=>intro i;simp [CC,G,lG,lx 1]
def bM (b:ByteArray) (x:lB):(b==(⟨x.toArray⟩:ByteArray))=(b.data.toList==x):=by
 show (b.data==x.toArray)=_;rw [jH];simp;constructor
 . intro h;rw [h]
 . intro h;rw [<-h]
def Je (b:ByteArray) (G:List lB):∀i j,(G.contains b.data.toList=false->Instr.findNow .string (.string b) (CC G i) j=some none) /\
 (G.contains b.data.toList=true -> ∃n,Instr.findNow .string (.string b) (CC G i) j=some (some (n,.bool true))):=by
 induction G with
 | nil=>intro i j;simp [CC,Instr.findNow]
 | cons x r M=>
  intro i j;simp only [CC,Instr.findNow,Instr.sameNow,bM,lI];cases h:b.data.toList==x
  . simpa using M (i+1) (j+1)
  . simp
def WD (h:Array Obj) (a b:Obj):(h.push a).setIfInBounds h.size b=h.push b:=by
 apply lg;simp
def Mk:prog.underlying 138=some (.map 9 4):=by kernel_rfl
def E8:prog.underlying 9=some .string:=by kernel_rfl
def St (w:wD) (G:List lB) (b:ByteArray) (h:G.contains b.data.toList=false) :
 (Instr.mapUpdate 138 (.map (some w.heap.size)) (.string b) (.bool true)).run prog (w.alloc (Em G)) = .ok () (w.alloc (Em (G++[b.data.toList]))):=by
 have M:(w.alloc (Em G)).heap[w.heap.size]? = some (.map (CC G 0).toArray G.length):=by show (w.heap.push (Em G))[w.heap.size]? = _;simp [Em]
 have N:Instr.findNow .string (.string b) (CC G 0) 0=some none:=(Je b G 0 0).1 h;have O:(Instr.checkKey false 10000 9 (.string b)).run prog (w.alloc (Em G)) = .ok () (w.alloc (Em G)):=MapKept.run_checkKey (k:=.string b) E8 (by simp [MapKept.IsKey]) false 9999;simp [Instr.mapUpdate,AD Mk,lA M,O,lL E8 N,MapKept.run_setObj_map _ M,gY];show ({ w with heap:=(w.heap.push (Em G)).setIfInBounds w.heap.size _ }:wD)={ w with heap:=w.heap.push _ };rw [WD];unfold Em;rw [Mj];simp
def Qo (w:wD) (h:List lB) (b:ByteArray) :
 (Instr.lookup 138 (.map (some w.heap.size)) (.string b) false).run prog (w.alloc (Em h)) = .ok (.bool (h.contains b.data.toList)) (w.alloc (Em h)):=by
 have M:(w.alloc (Em h)).heap[w.heap.size]? = some (.map (CC h 0).toArray h.length):=by show (w.heap.push (Em h))[w.heap.size]? = _;simp [Em]
 have N:∀q,(Instr.checkKey q 10000 9 (.string b)).run prog (w.alloc (Em h)) = .ok () (w.alloc (Em h)):=λq=>MapKept.run_checkKey (k:=.string b) E8 (by simp [MapKept.IsKey]) q 9999
 have O:(zeroValue 4).run prog (w.alloc (Em h)) = .ok (.bool false) (w.alloc (Em h)):=by kernel_rfl
 cases hk:h.contains b.data.toList
 . have G:=(Je b h 0 0).1 hk;simp [Instr.lookup,AD Mk,lA M,N,lL E8 G,O,gY]
 . obtain ⟨n,G⟩:=(Je b h 0 0).2 hk;simp [Instr.lookup,AD Mk,lA M,N,lL E8 G,gY]
def Qp (w:wD):(Instr.makeMap 138 none).run prog w = .ok (.map (some w.heap.size)) (w.alloc (Em [])):=run_makeMap _ w
def Qq (s:lB) (h:FW s=true):2<=s.length/\s.length<=7:=by
 have key:∀k∈keywords,2<=k.length/\k.length<=7:=by decide
 exact key s (by simpa [FW] using h)
def UJ (s:lB) (w:wD) (hs:s.length<=9223372036854775807) :
 Calls prog 45 #[str s] w λe w'=>e = .returned (.bool (FW s))/\Ext w w':=by
 by_cases h2:s.length<2\/7<s.length
 . have hk:FW s=false:=by
    cases h:FW s
    . rfl
    . have:=Qq s h;omega
   have HK:=gO hk;clear hk
   by_cases h3:s.length<2
   . have d1:decide ((s.length:Int)<2)=true:=by simp;omega
     clear h2
     go_enter func45,ntmps45
     go_wp2_with fail
     go_ret
     rw [HK.out];exact ⟨rfl,Ext.refl _⟩
   . have d1:decide ((s.length:Int)<2)=false:=by simp;omega
     have d2:decide ((7:Int)<s.length)=true:=by simp;omega
     clear h2
     go_enter func45,ntmps45
     go_wp2_with fail
     go_ret
     rw [HK.out];exact ⟨rfl,Ext.refl _⟩
 . have d1:decide ((s.length:Int)<2)=false:=by simp;omega
   have d2:decide ((7:Int)<s.length)=false:=by simp;omega
   have r1:=Qp;have r2:=St w;have r3:=Qo w
   go_enter func45,ntmps45
   go_wp2_with fail
   go_ret
   exact ⟨AX (by simp [FW,keywords]),(by refine Ext.alloc ?_ _;exact Ext.refl _)⟩
end Bk
