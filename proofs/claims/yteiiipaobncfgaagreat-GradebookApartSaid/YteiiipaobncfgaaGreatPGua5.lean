/- Texts that the proofs of GradebookNone, GradebookFull, GradebookNew, GradebookRanks, GradebookApart need. No condition. (Part 5 of 13.) -/
import Derived.Test.YteiiipaobncfgaaGreatPGua4
set_option linter.unusedSimpArgs false
set_option linter.unusedVariables false
set_option linter.defProp false
set_option maxRecDepth 100000
set_option maxHeartbeats 4000000
open Go.Proofs.Tryz
open List renaming getElem?_eq_getElem->gm,take_succ_eq_append_getElem->gx,getElem_mem->gA,length_cons->gD,take_length->gF,getElem?_eq_none->gG,getElem?_append_left->gJ,length_append->gO,replicate->gT,getElem?_append_right->gU,getElem?_map->gV,drop_eq_getElem_cons->gW,getElem?_cons_zero->gX,getD_eq_getElem?_getD->gY,append_assoc->gZ,length_nil->hH,mem_singleton->ia,length_take->ij,mem_cons->ik,map_cons->im,mem_of_getElem?->io,range->it,getElem?_set_ne->iF,not_mem_nil->iH
open Go.Lib renaming hid->gp
open Or renaming inl->gq,inr->gt
open Bool renaming and_eq_true->gu,false_eq_true->iE
open Go.Result renaming andThen->gw
open Option.some renaming injEq->gy,inj->gB
open Go.IntWalk renaming i64_in->gz
open Nat renaming zero_le->gC,le_refl->gI,lt_or_ge->gK,blt->gM,le_of_ble_eq_true->gS,eq_of_beq_eq_true->ip,zero_add->iu,ble->iy,beq->iA
open Go.Sem renaming run_bind->gE,run_pure->gP
open Go renaming Calls->gH
open Except renaming bind->gL
open Go.Value renaming slice->gN,int->ii,ownBlock->iI
open Go.Region renaming ready->gQ,binds->iw
open Go.Value.slice renaming injEq->gR
open Go.DataW renaming trod->ic
open List.cons renaming injEq->ig
open Go.Builtin renaming zeroCells->iq
open Go.Calls renaming mono->ir
open Array renaming getElem?_eq_none->iv,replicate->iD
open Go.Oper renaming wp->iB
open Go.Addr renaming add->iC
open Go.IntKind renaming wrap->iG
open Go.Op renaming equalIn->iJ
open Bk.Ext renaming refl->iK
open Bk.Fr renaming of_ext->iM,refl->iP,fr->iU
open Bk.Row renaming ext->iN,at0->iT
open Bk.Blk renaming fr->iO,cell->iV,row->i7
open Bk.Value renaming one->i6
open Bk.Arr renaming get->i8
open Bk.Own renaming fr->i9
open Bk.EX renaming cells->jg
open Bk.Stp renaming setCur->ji,items->jq
namespace Bk
section
variable {ns:List Bv} {L:List AtV}
end
open Go Go.RowKit Go.Proofs
variable {G:List (lB×Value)} {r t e sz t':Nat} {w w':wD} {x:Operand} {S:wD->Prop} {v:Value} {xs:List Int} {M:nP} {es:List EX} {m:Option Nat} {s:lB} {l:List VD} {α:Type} {ty:TypeId} {q:Bool} {k:Int} {p:oA} {n:Bv} {us:lV} {c:Rn}
open Go.ChangeMaps (setBlock)
def Ma (es:List MapEntry) (clock:Nat):Prop:=(es.map (·.born)).Nodup /\ ∀e∈es,e.born<clock
def MapB (w:wD) (r:Nat) (kvs:List (lB×Value)):Prop:= ∃es clock,w.heap[r]? = some (.map es clock)/\Bf es.toList kvs/\Ma es.toList clock
def MapB.is {kvs:List (lB×Value)} (h:MapB w r kvs):MapIs w r kvs:=by
 obtain ⟨es,c,G,M,-⟩:=h;exact ⟨es,c,G,M⟩
def MapB.lt {w:wD} {r:Nat} {kvs:List (lB×Value)} (h:MapB w r kvs):r<w.heap.size:=h.is.lt
def MapB.ext {kvs:List (lB×Value)} (h:MapB w r kvs) (x:Ext w w'):MapB w' r kvs:=by
 have G:=h.lt;obtain ⟨es,c,h,e⟩:=h;exact ⟨es,c,by rw [x.block G];exact h,e⟩
instance {kvs:List (lB×Value)}:LfE w w' (MapB w r kvs) (MapB w' r kvs):=⟨λx h=>Bk.MapB.ext h x⟩
def MapB.fr {S:nP} {kvs:List (lB×Value)} (h:MapB w r kvs) (x:Fr S w w') (G:¬S r):MapB w' r kvs:=by
 have M:=h.lt;obtain ⟨es,c,h,e⟩:=h;exact ⟨es,c,by rw [x.block r M G];exact h,e⟩
instance {S:nP} {kvs:List (lB×Value)}:LfF S w w' (MapB w r kvs) (¬S r) (MapB w' r kvs):=⟨λx s h=>Bk.MapB.fr h x s⟩
def ItM (w:wD) (r m:Nat) (lft:List (lB×Value)) (cur:Option (lB×Value)):Prop:=
 ∃es clock seen,w.heap[r]? = some (.mapIter (some m) clock seen clock)/\w.heap[m]? = some (.map es clock)/\Ma es.toList clock/\Bf (leftOf es seen).toList lft /\
  ∀p,cur=some p -> ∃e∈es.toList,e.key=str p.1/\e.val=p.2 /\ ∃s':Array Nat,seen=s'.push e.born
def ItM.lt {m:Nat} {cur:Option (lB×Value)} (h:ItM w r m G cur):r<w.heap.size/\m<w.heap.size/\r≠m:=by
 obtain ⟨es,c,N,O,M,-⟩:=h;refine ⟨(Array.getElem?_eq_some_iff.1 O).1,(Array.getElem?_eq_some_iff.1 M).1,λe=>?_⟩;subst e;rw [O] at M;cases M
def ItM.ext {m:Nat} {cur:Option (lB×Value)} (h:ItM w r m G cur) (x:Ext w w'):ItM w' r m G cur:=by
 obtain ⟨N,O,-⟩:=h.lt;obtain ⟨es,c,M,U,V,X⟩:=h;exact ⟨es,c,M,by rw [x.block N];exact U,by rw [x.block O];exact V,X⟩
instance {m:Nat} {cur:Option (lB×Value)}:LfE w w' (ItM w r m G cur) (ItM w' r m G cur):=⟨λx h=>Bk.ItM.ext h x⟩
def ItM.fr {S:nP} {m:Nat} {cur:Option (lB×Value)} (h:ItM w r m G cur) (x:Fr S w w') (N:¬S r /\ ¬S m):ItM w' r m G cur:=by
 obtain ⟨O,U,-⟩:=h.lt;obtain ⟨es,c,M,V,X,Y⟩:=h;exact ⟨es,c,M,by rw [x.block r O N.1];exact V,by rw [x.block m U N.2];exact X,Y⟩
instance {S:nP} {m:Nat} {cur:Option (lB×Value)}:LfF S w w' (ItM w r m G cur) (¬S r /\ ¬S m) (ItM w' r m G cur):=⟨λx s h=>Bk.ItM.fr h x s⟩
section
variable {P:Program} {n:Nat} {l:Sl} {w:wD} {tab:Tab} {ty:TypeId}
def Qo {es:Array MapEntry} {j:Nat} {f:MapEntry->MapEntry} (G:∀e,(f e).born=e.born):(es.modify j f).toList.map (·.born)=es.toList.map (·.born):=by
 apply List.ext_getElem?;intro i;rw [gV,gV,Array.getElem?_toList,Array.getElem?_toList,Array.getElem?_modify];by_cases h:j=i
 . subst h;cases es[j]? <;> simp [G]
 . simp [h]
def Wy {es G:List MapEntry} {c:Nat} (h:Ma es c) (M:G.map (·.born)=es.map (·.born)):Ma G c:=by
 obtain ⟨N,O⟩:=h;refine ⟨M▸N,λe U=>?_⟩;have:e.born∈es.map (·.born):=M▸List.mem_map_of_mem U;obtain ⟨x,V,X⟩:=List.mem_map.1 this;rw [<-X];exact O x V
def Mb {ab:Nat} {k:lB} {kvs:List (lB×Value)} (T:TabOk P tab) (ht:Az tab t=some (.map sz e,t')) (O:Az tab sz=some (.str,ab)) (hm:MapB w r kvs) :
 ∃w1,(Instr.mapUpdate t (.map (some r)) (str k) v).run P w = .ok () w1/\MapB w1 r (Gb kvs k v)/\Fr (· = r) w w1/\w1.heap.size=w.heap.size:=by
 have hu:P.underlying t=some (.map sz e):=(T _ _ _ ht).under;have hk:P.underlying sz=some .string:=(T _ _ _ O).under;obtain ⟨w1,U,g2,g3,g4⟩:=MR (P:=P) (k:=k) (v:=v) T ht O hm.is;refine ⟨w1,U,?_,g3,g4⟩;obtain ⟨ac,c1,G,g6⟩:=g2;refine ⟨ac,c1,G,g6,?_⟩;obtain ⟨es,M,hh,he,Z⟩:=hm;have V:r<w.heap.size:=(Array.getElem?_eq_some_iff.1 hh).1;obtain ⟨o,h1,h2,h3⟩:=run_findKey hk (k:=k) he w;have hg:(getObj r).run P w = .ok (.map es M) w:=by simp [getObj,Sem.run,hh]
 have h:∀ob,(setObj r ob).run P w = .ok () { w with heap:=w.heap.setIfInBounds r ob }:=λob=>by simp [setObj,Sem.run,hh]
 cases o with
 | none=>
  simp only [Instr.mapUpdate,gE,AA hu,gw,hg,run_checkKey hk,h1,h,Result.ok.injEq,true_and] at U;rw [<-U] at G;simp only [Array.getElem?_setIfInBounds_self,V,if_true,gy,Obj.map.injEq] at G;obtain ⟨rfl,rfl⟩:=G;obtain ⟨b1,b2⟩:=Z;refine ⟨?_,λx N=>?_⟩
  . simp only [Array.toList_push,List.map_append,im,List.map_nil];rw [List.nodup_append];refine ⟨b1,AN,λa ha b ad e1=>?_⟩;obtain ⟨x,N,rfl⟩:=List.mem_map.1 ha;simp only [ia] at ad;have:=b2 x N;omega
  . simp only [Array.toList_push,List.mem_append,ia] at N;rcases N with N|rfl
    . have:=b2 x N;omega
    . simp
 | some q=>
  obtain ⟨j,u⟩:=q;obtain ⟨en,q1,q2,q3⟩:=h3 j u rfl;have X:(Instr.keyThatStays (((es[j]?).map (·.key)).getD (str k)) (str k)).run P w = .ok (str k) w:=by
   have:es[j]? = some en:=by simpa using q1
   rw [this];have Z:((⟨k.toArray⟩:ByteArray)==⟨k.toArray⟩)=true:=by rw [N2];simp
   simp [Instr.keyThatStays,q2,Instr.sameBits,Z]
  simp only [Instr.mapUpdate,gE,AA hu,gw,hg,run_checkKey hk,h1,X,h,Result.ok.injEq,true_and] at U;rw [<-U] at G;simp only [Array.getElem?_setIfInBounds_self,V,if_true,gy,Obj.map.injEq] at G;obtain ⟨rfl,rfl⟩:=G;exact Wy Z (Qo (λe=>rfl))
def YN (w:wD) (r:Nat) (kvs:List (lB×Value)):Option Value->wD->Prop
 | none,w1=>MapB w1 r kvs/\Fr (· = r) w w1/\w1.heap.size=w.heap.size
 | some _,_=>False
def E0 {y z:Operand} {sz2:Nat} {k:lB} {kvs:List (lB×Value)} (T:TabOk P tab) (ht:Az tab t=some (.map sz e,t')) (hkt:Az tab sz=some (.str,sz2)) (hx:ev l x=some (.map (some r))) (hy:ev l y=some (str k)) (hz:ev l z=some v) (hm:MapB w r kvs) :
 BD P n l (.mapUpdate t x y z) ty w (YN w r (Gb kvs k v)):=by
 unfold BD;intro a dst pos after g next Q ha _ hn;obtain ⟨w1,h1,h2,h3,h4⟩:=Mb (P:=P) (k:=k) (v:=v) T ht hkt hm;have e1:(execOp a.eval ⟨dst,.mapUpdate t x y z,ty,pos,after,g⟩).run P w = .ok .skip w1:=by
  simp only [execOp,ha.ev hx,ha.ev hy,ha.ev hz,gE,h1,gw,gP]
 unfold iB;rw [e1];exact hn w1 ⟨h2,h3,h4⟩
def ID:BD P n l (.makeMap t none) ty w (FV λv w1=> ∃r,v = .map (some r)/\r=w.heap.size/\MapB w1 r []/\Ext w w1/\w1.heap.size=r+1):=by
 unfold BD;intro a dst pos after g next Q ha hn _;have e1:(execOp a.eval ⟨dst,.makeMap t none,ty,pos,after,g⟩).run P w = .ok (.value (.map (some w.heap.size))) (w.alloc (.map #[] 0)):=by
  simp [execOp,Instr.makeMap,newObj,Sem.run,bind,Sem.bind,pure]
 unfold iB;rw [e1];exact hn _ _ ⟨_,rfl,rfl,⟨#[],0,by show (w.heap.push _)[w.heap.size]? = _;simp,by simp [Bf],by simp [Ma]⟩,(iK w).alloc _,by show (w.heap.push _).size=_;simp⟩
def KS {m:Nat} {kvs:List (lB×Value)} (T:TabOk P tab) (ht:Az tab t=some (.map t' e,sz)) (hx:ev l x=some (.map (some m))) (hm:MapB w m kvs) :
 BD P n l (.range t x) ty w (FV λo w'=> ∃r,o = .pointer (some ⟨r,0,none⟩)/\w.heap.size<=r/\r<w'.heap.size/\ItM w' r m kvs none/\Ext w w'):=by
 unfold BD;intro a dst pos after g next Q ha hn _;have hu:P.underlying t=some (.map t' e):=(T _ _ _ ht).under;have hl:=hm.lt;obtain ⟨es,clock,hh,he,hb⟩:=hm;have e1:(execOp a.eval ⟨dst,.range t x,ty,pos,after,g⟩).run P w = .ok (.value (.pointer (some ⟨w.heap.size,0,none⟩))) (w.alloc (.mapIter (some m) clock #[] clock)):=by
  simp only [execOp,ha.ev hx,Instr.range,gE,AA hu,gw,gP];simp [getObj,newObj,Sem.run,bind,Sem.bind,pure,hh]
 unfold iB;rw [e1];refine hn _ _ ⟨_,rfl,gI _,?_,⟨es,clock,#[],?_,?_,hb,?_,λp hp=>by cases hp⟩,(iK w).alloc _⟩
 . show w.heap.size<(w.heap.push _).size;rw [Array.size_push];omega
 . show (w.heap.push _)[w.heap.size]? = _;simp
 . exact (((iK w).alloc _).block hl).trans hh
 . have:leftOf es #[]=es:=by unfold leftOf;simp
   rw [this];exact he
def Mc {e:MapEntry}:∀ {L:List MapEntry},(L.map (·.born)).Nodup->e∈L -> ∃j:Nat,L[j]? = some e/\L.filter (λx=>x.born != e.born)=L.eraseIdx j
 | [],_,h=>by cases h
 | x::L,G,h=>by
  rw [im,List.nodup_cons] at G;obtain ⟨M,O⟩:=G;by_cases N:x=e
  . subst N;refine ⟨0,rfl,?_⟩;simp only [List.filter_cons,bne_self_eq_false,iE,if_false,List.eraseIdx_cons_zero];rw [List.filter_eq_self];intro y U;have:y.born≠x.born:=λe=>M (e▸List.mem_map_of_mem U)
    simpa using this
  . rcases ik.1 h with rfl|h
    . exact absurd rfl N
    . obtain ⟨j,V,X⟩:=Mc O h;have:x.born≠e.born:=λY=>M (Y▸List.mem_map_of_mem h)
      exact ⟨j+1,by simpa using V,by simp [List.filter_cons,this,X]⟩
def Ka {α β:Type} (f:α->β):∀(L:List α) (j:Nat),(L.eraseIdx j).map f=(L.map f).eraseIdx j
 | [],_=>by simp
 | x::L,0=>by simp
 | x::L,j+1=>by simp [Ka f L j]
def Qp (es:Array MapEntry) (h:Array Nat) (b:Nat):(leftOf es (h.push b)).toList=(leftOf es h).toList.filter (λx=>x.born != b):=by
 unfold leftOf;rw [Array.toList_filter,Array.toList_filter,List.filter_filter];congr 1;funext x;simp only [Array.contains_push,Bool.not_or,bne];rw [Bool.and_comm]
def Md {m:Nat} {cur:Option (lB×Value)} (hx:ev l x=some (.pointer (some ⟨r,0,none⟩))) (hi:ItM w r m G cur) (hl:G≠[]) :
 BD P n l (.next x false) ty w (FV λo w'=> ∃(j:Nat) (p:lB×Value),G[j]? = some p/\o = .tuple #[.bool true,str p.1,p.2]/\ItM w' r m (G.eraseIdx j) (some p)/\Fr (· = r) w w'):=by
 unfold BD;intro a dst pos after g next Q ha hn _;obtain ⟨es,c,seen,h1,h2,hb,h3,-⟩:=hi;rcases run_next_at (P:=P) w ty r m c c seen es c h1 h2 hb.2 (gI _) with ⟨h0,-⟩|⟨e,he,w1,hw,hr⟩
 . have:(leftOf es seen).toList=[]:=by simpa using h0
   rw [this] at h3;unfold Bf at h3;exact absurd (List.map_eq_nil_iff.1 h3.symm) hl
 . have hsub:(leftOf es seen).toList.Sublist es.toList:=by unfold leftOf;rw [Array.toList_filter];exact List.filter_sublist
   have hes:e∈es.toList:=hsub.subset he;obtain ⟨j,g1,g2⟩:=Mc ((hsub.map (·.born)).nodup hb.1) he;have g3:((leftOf es seen).toList.map λe=>(e.key,e.val))[j]? = some (e.key,e.val):=by rw [gV,g1];rfl
   unfold Bf at h3;rw [h3,gV] at g3;obtain ⟨p,hp,hpe⟩:=Option.map_eq_some_iff.1 g3;obtain ⟨k1,k2⟩:=Prod.mk.inj hpe;have hW:w1.heap=w.heap:=by rcases hw with rfl|rfl<;>rfl
   have X1:Ext w w1:=by rcases hw with rfl|rfl;exact iK _;exact (iK w).drew
   obtain ⟨p1,p2⟩:=IG w1 r _ (.mapIter (some m) c (seen.push e.born) c) (by rw [hW];exact h1);have hne:r≠m:=λq=>by subst q;rw [h1] at h2;cases h2
   have e1:(execOp a.eval ⟨dst,.next x false,ty,pos,after,g⟩).run P w = .ok (.value (.tuple #[.bool true,e.key,e.val])) (setBlock w1 r (.mapIter (some m) c (seen.push e.born) c)):=by
    simp only [execOp,ha.ev hx,gE,hr,gw,gP]
   unfold iB;rw [e1];refine hn _ _ ⟨j,p,hp,by rw [<-k1,<-k2],⟨es,c,seen.push e.born,p1,?_,hb,?_,λq hq=>?_⟩,(iM X1).trans p2⟩
   . have hm:m<w1.heap.size:=by rw [hW];exact (Array.getElem?_eq_some_iff.1 h2).1
     exact (p2.block m hm (λq=>hne q.symm)).trans (by rw [hW];exact h2)
   . unfold Bf;rw [Qp,g2,Ka,h3,Ka]
   . obtain rfl:=gB hq;exact ⟨e,hes,k1.symm,k2.symm,seen,rfl⟩
def KT {m:Nat} {cur:Option (lB×Value)} (hx:ev l x=some (.pointer (some ⟨r,0,none⟩))) (hi:ItM w r m [] cur) :
 BD P n l (.next x false) ty w (FV λo w'=>o = .tuple #[.bool false]/\w'=w):=by
 unfold BD;intro a dst pos after g next Q ha hn _;obtain ⟨es,c,seen,h1,h2,hb,h3,-⟩:=hi;rcases run_next_at (P:=P) w ty r m c c seen es c h1 h2 hb.2 (gI _) with ⟨-,hr⟩|⟨e,he,-⟩
 . have e1:(execOp a.eval ⟨dst,.next x false,ty,pos,after,g⟩).run P w = .ok (.value (.tuple #[.bool false])) w:=by
    simp only [execOp,ha.ev hx,gE,hr,gw,gP]
   unfold iB;rw [e1];exact hn _ _ ⟨rfl,rfl⟩
 . unfold Bf at h3;rw [List.map_nil,List.map_eq_nil_iff] at h3;rw [h3] at he;cases he
def Nz {m:Nat} {h:List (lB×Value)} {p:lB×Value} (M:ev l x=some (.pointer (some ⟨r,0,none⟩))) (N:∀w,S w->ItM w r m h (some p)) :
 Bh P n l S (.entry x) ty (.tuple #[str p.1,p.2]):=by
 unfold Bh;intro s w O pos after g U V;obtain ⟨es,c,G,X,Y,Z,h3,h4⟩:=N w V;obtain ⟨e,he,k1,k2,s',rfl⟩:=h4 p rfl;have:=run_entry_at (P:=P) w r m c s' es c e X Y he Z.1;simp only [execOp,U.ev M,gE,this,gw,gP,k1,k2]
end
def Ew (o:List Bv) (x:Bv):List Bv:=if x∈o then o else o++[x]
def NA {k:Bv} (h:n≠k) (o:List Bv):Ew (k::o) n=k::Ew o n:=by
 unfold Ew;by_cases G:n∈o
 . rw [AQ G,AQ (List.mem_cons_of_mem _ G)]
 . rw [AB G,AB (λe=>(ik.1 e).elim h G),List.cons_append]
def R4 {o:List Bv} (h:o.Nodup) (n:Bv):(Ew o n).Nodup:=by
 unfold Ew;split
 . exact h
 . rename_i M;rw [List.nodup_append];exact ⟨h,AN,λx N y G e=>M (by simp only [ia] at G;rw [<-G,<-e];exact N)⟩
def mem_addN {o:List Bv} {z:Bv}:z∈Ew o n↔z∈o\/z=n:=by
 unfold Ew;split
 . rename_i h;exact ⟨gq,λe=>e.elim id (λe=>e▸h)⟩
 . simp
def Qq (L:List AtV) (s:Bv):List Bv:=L.foldl (λo a=>if a.s=s then Ew o a.n else o) []
def Gp (L:List AtV) (a:AtV) (s:Bv):Qq (L++[a]) s=if a.s=s then Ew (Qq L s) a.n else Qq L s:=by simp [Qq,List.foldl_append]
def KU (L:List AtV) (a:AtV):Bj (L++[a])=Ew (Bj L) a.s:=by
 unfold Bj Ew;rw [List.foldl_append,List.foldl_cons,List.foldl_nil]
def JA (L:List AtV):(Bj L).Nodup:=(Fu L [] List.nodup_nil).1
def JB {p:List α->Prop} (h:p []) (G:∀l x,p l->p (l++[x])) (l:List α):p l:=by
 have:∀m:List α,p m.reverse:=λm=>by
  induction m with
  | nil=>exact h
  | cons x m M=>rw [List.reverse_cons];exact G _ _ M
 simpa using this l.reverse
def NB (L:List AtV) (s:Bv):(Qq L s).Nodup:=by
 refine JB (p:=λL=>(Qq L s).Nodup) (by simp [Qq]) (λL a h=>?_) L;rw [Gp];split
 . exact R4 h _
 . exact h
def Ex (L:List AtV) (a:AtV) (s n:Bv):C4 (L++[a]) s n=C4 L s n+if a.s=s/\a.n=n then 1 else 0:=by
 unfold C4;rw [List.countP_append,List.countP_singleton];by_cases h:a.s=s<;>by_cases G:a.n=n<;>simp [h,G]
def E6 (L:List AtV) (a:AtV) (s n:Bv):Cb (L++[a]) s n=(Cb L s n||(decide (a.s=s)&&(decide (a.n=n)&&a.ok))):=by
 unfold Cb;rw [List.any_append,List.any_cons,List.any_nil,Bool.or_false]
def UP (L:List AtV) (a:AtV) (s:Bv):DU (L++[a]) s=DU L s+if a.s=s then 1 else 0:=by
 unfold DU;rw [List.countP_append,List.countP_singleton];by_cases h:a.s=s<;>simp [h]
def Kb (L:List AtV) (s n:Bv):n∉Qq L s->C4 L s n=0/\Cb L s n=false:=by
 refine JB (p:=λL=>n∉Qq L s->C4 L s n=0/\Cb L s n=false) (λ_=>⟨rfl,rfl⟩) (λL a h G=>?_) L;rw [Gp] at G;rw [Ex,E6];by_cases M:a.s=s
 . rw [AQ M,mem_addN,not_or] at G;obtain ⟨N,O⟩:=h G.1;have U:¬a.n=n:=λe=>G.2 e.symm
   simp [N,O,U]
 . rw [AB M] at G;obtain ⟨N,O⟩:=h G;simp [N,O,M]
def Me {L:List AtV} {s:Bv} (h:s∉Bj L):Qq L s=[]:=by
 revert h;refine JB (p:=λL=>s∉Bj L->Qq L s=[]) (λ_=>rfl) (λL a M G=>?_) L;rw [KU,mem_addN,not_or] at G;rw [Gp,AB (λe=>G.2 e.symm),M G.1]
def YO (L:List AtV) (s:Bv):((Qq L s).map λn=>C4 L s n).sum=DU L s:=by
 have V:∀(o:List Bv) (f:Bv->Nat) (n:Bv),o.Nodup->(∀m,m∉o->f m=0)->((Ew o n).map λm=>f m+if n=m then 1 else 0).sum=(o.map f).sum+1:=by
  intro o f n hn hf;have X:∀l:List Bv,n∉l->(l.map λm=>f m+if n=m then 1 else 0)=l.map f:=λl hl=>List.map_congr_left λm M=>by rw [AB (λe=>hl (by rw [e];exact M))];rfl
  induction o with
  | nil=>simp [Ew,hf]
  | cons k o Y=>
   obtain ⟨g1,g2⟩:=List.nodup_cons.1 hn;by_cases U:n=k
   . subst U;have:Ew (n::o) n=n::o:=by unfold Ew;simp
     rw [this,im,X o g1,List.sum_cons,im,List.sum_cons];simp only [if_true];omega
   . rw [NA U,im,List.sum_cons,im,List.sum_cons,AB U];by_cases G:n∈o
     . have Z:Ew o n=o:=by unfold Ew;rw [AQ G]
       have key:∀l:List Bv,l.Nodup->n∈l->(l.map λm=>f m+if n=m then 1 else 0).sum=(l.map f).sum+1:=by
        intro l
        induction l with
        | nil=>intro _ h;cases h
        | cons x l il=>
         intro hx M;obtain ⟨x1,x2⟩:=List.nodup_cons.1 hx;by_cases N:n=x
         . subst N;rw [im,X l x1,List.sum_cons,im,List.sum_cons];simp only [if_true];omega
         . rw [im,List.sum_cons,im,List.sum_cons,AB N,il x2 ((ik.1 M).resolve_left N)];omega
       rw [Z,key o g2 G];omega
     . have Z:Ew o n=o++[n]:=by unfold Ew;rw [AB G]
       have e2:f n=0:=hf n (by simp [G,U]);rw [Z,List.map_append,List.sum_append,X o G];simp [e2];omega
 refine JB (p:=λL=>((Qq L s).map λn=>C4 L s n).sum=DU L s) (by simp [Qq,DU]) (λL a Y=>?_) L;rw [Gp,UP];by_cases O:a.s=s
 . rw [AQ O,AQ O,<-Y,<-V (Qq L s) (λn=>C4 L s n) a.n (NB L s) (λm M=>(Kb L s m M).1)];congr 1;refine List.map_congr_left λm _=>?_
   rw [Ex];by_cases M:a.n=m<;>simp [O,M]
 . rw [AB O,AB O,<-Y,Nat.add_zero];congr 1;refine List.map_congr_left λm _=>?_
   rw [Ex,AB (λe=>O e.1),Nat.add_zero]
def Ho (L:List AtV) (s n:Bv):Value:=.agg #[.int .i64 (C4 L s n),.bool (Cb L s n)]
def GS (L:List AtV) (s:Bv):List (lB×Value):=(Qq L s).map λn=>(n,Ho L s n)
def Fv (f:Bv->Value) (n:Bv):∀o:List Bv,Ej (o.map λk=>(k,f k)) n=if n∈o then some (f n) else none
 | []=>rfl
 | k::o=>by
  rw [im,Ej];by_cases h:n=k
  . subst h;simp
  . rw [AB h,Fv f n o];simp [h]
def Mf {f g:Bv->Value} {n:Bv} (G:∀k,k≠n->f k=g k):∀o:List Bv,o.Nodup->Gb (o.map λk=>(k,f k)) n (g n)=(Ew o n).map λk=>(k,g k)
 | [],_=>by simp [Gb,Ew]
 | k::o,M=>by
  obtain ⟨N,O⟩:=List.nodup_cons.1 M;rw [im,Gb];by_cases h:n=k
  . subst h;rw [AQ rfl];have:Ew (n::o) n=n::o:=by unfold Ew;simp
    rw [this,im];congr 1;exact List.map_congr_left λm U=>by rw [G m (λe=>N (e▸U))]
  . rw [AB h,NA h,im,Mf G o O,G k (λe=>h e.symm)]
def OF (L:List AtV) (s n:Bv):Cv (Ej (GS L s) n) (.agg #[.int .i64 0,.bool false]) false=Ho L s n:=by
 unfold GS;rw [Fv (λn=>Ho L s n)];split
 . rfl
 . rename_i h;obtain ⟨G,M⟩:=Kb L s n h;simp [Cv,Ho,G,M]
def Tn (L:List AtV) (s n:Bv) (ok:Bool):Gb (GS L s) n (Ho (L++[⟨s,n,ok⟩]) s n)=GS (L++[⟨s,n,ok⟩]) s:=by
 unfold GS;rw [Gp,AQ rfl];refine Mf (f:=λk=>Ho L s k) (g:=λk=>Ho (L++[⟨s,n,ok⟩]) s k) (λk h=>?_) _ (NB L s);have:¬n=k:=λe=>h e.symm
 simp [Ho,Ex,E6,this]
def UQ (L:List AtV) {s t:Bv} (h:t≠s) (ok:Bool):GS (L++[⟨t,n,ok⟩]) s=GS L s:=by
 unfold GS;rw [Gp,AB h];refine List.map_congr_left λk _=>?_
 simp [Ho,Ex,E6,h]
def Qr (L:List AtV) (s n:Bv) (ok:Bool) (h:Cb L s n=false):Ho (L++[⟨s,n,ok⟩]) s n = .agg #[.int .i64 ((C4 L s n:Int)+1),.bool ok]:=by
 simp [Ho,Ex,E6,h]
def RecAt (M:nP) (w:wD) (r:Nat) (L:List AtV):Prop:= ∃bf:Bv->Nat,MapB w r ((Bj L).map λs=>(s,.map (some (bf s))))/\M r /\
 (∀s∈Bj L,M (bf s)/\bf s≠r/\MapB w (bf s) (GS L s)) /\ ∀s∈Bj L,∀t∈Bj L,bf s=bf t->s=t
def RecAt.ext {M:nP} {w w':wD} {r:Nat} {L:List AtV} (h:RecAt M w r L) (x:Ext w w'):RecAt M w' r L:=by
 obtain ⟨bf,O,U,G,V⟩:=h;exact ⟨bf,O.ext x,U,λs N=>⟨(G s N).1,(G s N).2.1,(G s N).2.2.ext x⟩,V⟩
instance {L:List AtV}:LfE w w' (RecAt M w r L) (RecAt M w' r L):=⟨λx h=>Bk.RecAt.ext h x⟩
def RecAt.fr {M:nP} {S:nP} {w w':wD} {r:Nat} {L:List AtV} (h:RecAt M w r L) (x:Fr S w w') (O:∀k,M k -> ¬S k):RecAt M w' r L:=by
 obtain ⟨bf,V,U,G,X⟩:=h;exact ⟨bf,V.fr x (O _ U),U,λs N=>⟨(G s N).1,(G s N).2.1,(G s N).2.2.fr x (O _ (G s N).1)⟩,X⟩
instance {S:nP} {L:List AtV}:LfF S w w' (RecAt M w r L) (∀k,M k -> ¬S k) (RecAt M w' r L):=⟨λx s h=>Bk.RecAt.fr h x s⟩
section
variable {P:Program} {n:Nat} {l:Sl} {tab:Tab} {ty:TypeId}
def MapZ (w:wD) (m:Option Nat) (kvs:List (lB×Value)):Prop:=(m=none/\kvs=[]) \/ ∃r,m=some r/\MapIs w r kvs
def Qs {y:Operand} {U:Nat} {c:Bool} {k:lB} {z:Value} {kvs:List (lB×Value)} (T:TabOk P tab) (Z:Az tab t=some (.map sz e,t')) (G:Az tab sz=some (.str,U)) (N:((P.info? e).bind (·.zero))=some z)
 (hx:ev l x=some (.map m)) (hy:ev l y=some (str k)) (hm:∀w,S w->MapZ w m kvs):Bh P n l S (.lookup t x y c) ty (Cv (Ej kvs k) z c):=by
 cases m with
 | some r=>
  refine Lk T Z G N hx hy λw hw=>?_
  rcases hm w hw with ⟨h,-⟩|⟨r',h,V⟩
  . cases h
  . obtain rfl:=gB h;exact V
 | none=>
  unfold Bh;intro a w aa pos after g ha hS;have X:kvs=[]:=by
   rcases hm w hS with ⟨-,h⟩|⟨r',h,-⟩
   . exact h
   . cases h
  subst X;have hu:P.underlying t=some (.map sz e):=(T _ _ _ Z).under;have hk:P.underlying sz=some .string:=(T _ _ _ G).under;obtain ⟨i0,z1,z2⟩:∃i,P.info? e=some i/\i.zero=some z:=by
   cases hi:P.info? e with
   | none=>rw [hi] at N;cases N
   | some i=>exact ⟨i,rfl,by simpa [hi] using N⟩
  obtain ⟨o,h1,V,-⟩:=run_findKey hk (k:=k) (es:=[]) (kvs:=[]) rfl w;have Y:(zeroValue e).run P w = .ok z w:=by simp [zeroValue,typeInfo,program,Sem.run,z1,z2,bind,Sem.bind,pure]
  have e1:(Instr.lookup t (.map none) (str k) c).run P w = .ok (Cv (Ej [] k) z c) w:=by
   simp only [Instr.lookup,gE,AA hu,gw,gP,run_checkKey hk,h1];rw [<-V];cases o with
   | none=>simp [Y,Cv]
   | some q=>simp [Cv]
  simp only [execOp,ha.ev hx,ha.ev hy,gE,e1,gw,gP]
def Mg {h:Nat} (T:TabOk P tab) (M:Az tab t=some (.map h e,sz)) (N:ev l x=some (.map m)) (O:m.isNone=q):Bh P n l S (.binOp .eql t x (.const (.map none)) t') ty (.bool q):=by
 subst O;unfold Bh;intro G w U pos after g V _;have X:P.underlying t=some (.map h e):=(T _ _ _ M).under;have Y:(eqGuard .eql t x (.const (.map none)) (.map m) (.map none)).run P w = .ok () w:=by unfold eqGuard;simp
 have Z:=run_equal_map_nil (P:=P) w t h e m X;have hn:G.eval (.const (.map none)) = .map none:=rfl;simp [execOp,V.ev N,hn,Y,Z,binOp]
def Qt (T:TabOk P tab) (G:Az tab t=some (.ptr e,sz)) (M:ev l x=some (.pointer p)) (N:p.isNone=q):Bh P n l S (.binOp .eql t x (.const (.pointer none)) t') ty (.bool q):=by
 subst N;unfold Bh;intro h w O pos after g U _;have V:P.underlying t=some (.pointer e):=(T _ _ _ G).under;have X:(eqGuard .eql t x (.const (.pointer none)) (.pointer p) (.pointer none)).run P w = .ok () w:=by unfold eqGuard;simp
 have Y:(Op.equal t (.pointer p) (.pointer none)).run P w = .ok p.isNone w:=by
  show (iJ (9999+1) t (.pointer p) (.pointer none)).run P w=_;unfold iJ;cases p<;>simp [AA V,gw]
 have Z:h.eval (.const (.pointer none)) = .pointer none:=rfl;simp [execOp,U.ev M,Z,X,Y,binOp]
def UR (T:TabOk P tab) (G:Az tab t=some (.ptr e,sz)) (M:ev l x=some (.pointer p)) (N:(!p.isNone)=q):Bh P n l S (.binOp .neq t x (.const (.pointer none)) t') ty (.bool q):=by
 subst N;unfold Bh;intro h w O pos after g U _;have V:P.underlying t=some (.pointer e):=(T _ _ _ G).under;have X:(eqGuard .neq t x (.const (.pointer none)) (.pointer p) (.pointer none)).run P w = .ok () w:=by unfold eqGuard;simp
 have Y:(Op.equal t (.pointer p) (.pointer none)).run P w = .ok p.isNone w:=by
  show (iJ (9999+1) t (.pointer p) (.pointer none)).run P w=_;unfold iJ;cases p<;>simp [AA V,gw]
 have Z:h.eval (.const (.pointer none)) = .pointer none:=rfl;simp [execOp,U.ev M,Z,X,Y,binOp]
def Ee {p:Addr} (T:TabOk P tab) (h:Az tab t=some (.ptr e,sz)) (G:ev l x=some (.pointer (some p))):Bh P n l S (.binOp .eql t x (.const (.pointer none)) t') ty (.bool false):=Qt T h G rfl
def FQ (T:TabOk P tab) (h:Az tab t=some (.ptr e,sz)) (G:ev l x=some (.pointer none)):Bh P n l S (.binOp .eql t x (.const (.pointer none)) t') ty (.bool true):=Qt T h G rfl
def Mh {p:Addr} (T:TabOk P tab) (h:Az tab t=some (.ptr e,sz)) (G:ev l x=some (.pointer (some p))):Bh P n l S (.binOp .neq t x (.const (.pointer none)) t') ty (.bool true):=UR T h G rfl
def YP {h:Nat} (T:TabOk P tab) (G:Az tab t=some (.map h e,sz)) (M:ev l x=some (.map (some r))):Bh P n l S (.binOp .eql t x (.const (.map none)) t') ty (.bool false):=Mg T G M rfl
def YQ {h:Nat} (T:TabOk P tab) (G:Az tab t=some (.map h e,sz)) (M:ev l x=some (.map none)):Bh P n l S (.binOp .eql t x (.const (.map none)) t') ty (.bool true):=Mg T G M rfl
end
attribute [local irreducible] Go.Calls
def PDsC.move {S S':nP} {w w':wD} {l:List PD} {a:oA} (h:PDsC S w l a) (G:∀b,S b->S' b) (M:∀b o v,S b->w.cell? ⟨b,o,none⟩=some v->w'.cell? ⟨b,o,none⟩=some v):PDsC S' w' l a:=
 h.mono G (λb _ _ _ N ⟨O,pc,ba,bc,h1,h2,h3,h4⟩=>⟨O,pc,ba,bc,Ly h1 (λo v=>M b o v N),h2.move G M,Nd.sits_mono G M _ ba h3,h4⟩)
def EX.sits.move {S S':nP} {w w':wD} {e:EX} {O U G:oA} {vc:Nat} (h:e.sits S w O U G vc) (M:∀b,S b->S' b) (N:∀b o v,S b->w.cell? ⟨b,o,none⟩=some v->w'.cell? ⟨b,o,none⟩=some v):e.sits S' w' O U G vc:=
 have V:=h.p.move M N
 ⟨⟨h.g.vars.move M N,V.pds,Nd.sits_mono M N _ G h.g.main⟩,V,h.room⟩
def EX.sits.wide {S S':nP} {w:wD} {e:EX} {G M N:oA} {vc:Nat} (h:e.sits S w G M N vc) (O:∀b,S b->S' b):e.sits S' w G M N vc:=⟨h.g.wide O,h.p.wide O,h.room⟩
def EX.sits.lt2 {S:nP} {w:wD} {e:EX} {M N G:oA} {vc:Nat} (h:e.sits S w M N G vc):e.sits (λb=>S b/\b<w.heap.size) w M N G vc:=
 have O:=h.p.lt2
 ⟨⟨h.g.vars.lt2,O.pds,Gg _ G h.g.main⟩,O,h.room⟩
def dG (S:nP) (w:wD) (b o:Nat) (e:EX):Prop:= ∃va vc pa pc ma mc,Row w ⟨b,o,none⟩ (e.cells va vc pa pc ma mc)/\e.sits S w va pa ma vc
def EXs (S:nP) (w:wD) (l:List EX) (a:oA):Prop:=Arr S 12 (dG S) w l a
def EXs.ext {S:nP} {w w':wD} {l:List EX} {a:oA} (h:EXs S w l a) (x:Ext w w'):EXs S w' l a:=
 h.mono aFh (λ_ _ _ _ _ ⟨G,vc,pa,pc,ma,mc,h1,h2⟩=>⟨G,vc,pa,pc,ma,mc,h1.ext x,h2.ext x⟩)
instance {S:nP} {l:List EX} {a:oA}:LfE w w' (EXs S w l a) (EXs S w' l a):=⟨λx h=>Bk.EXs.ext h x⟩
def EXs.fr {S T:nP} {w w':wD} {l:List EX} {a:oA} (h:EXs S w l a) (x:Fr T w w') (G:∀b,S b -> ¬T b):EXs S w' l a:=
 h.mono aFh (λb _ _ _ M ⟨N,vc,pa,pc,ma,mc,h1,h2⟩=>⟨N,vc,pa,pc,ma,mc,h1.fr x (G b M),h2.fr x G⟩)
instance {S T:nP} {l:List EX} {a:oA}:LfF T w w' (EXs S w l a) (∀b,S b -> ¬T b) (EXs S w' l a):=⟨λx s h=>Bk.EXs.fr h x s⟩
def EXs.ltA {S:nP} {w:wD} {l:List EX} {a:oA} (h:EXs S w l a):EXs (· < w.heap.size) w l a:=by
 rcases h with h|⟨b,o,X,h2,G⟩
 . exact gq h
 . cases l with
   | nil=>exact gq rfl
   | cons p r=>
    obtain ⟨M,vc,N,O,U,V,Y,-⟩:=G 0 p rfl;refine gt ⟨b,o,X,Cg (Y.at0 rfl),λi v Z=>?_⟩;obtain ⟨M,vc,N,O,U,V,k1,k2⟩:=G i v Z;exact ⟨M,vc,N,O,U,V,k1,k2.ltA⟩
def E7:Shape EX where
 sz:=12
 rep:=λw S e cs=> ∃va vc pa pc ma mc,cs=e.cells va vc pa pc ma mc/\e.sits S w va pa ma vc
 len:=λ⟨_,_,_,_,_,_,h,_⟩=>by rw [h];rfl
 one:=λ⟨_,_,_,_,_,_,h,_⟩=>by rw [h];rfl
 mono:=λ⟨va,vc,pa,pc,ma,mc,h,h1⟩ hS hc=>⟨va,vc,pa,pc,ma,mc,h,h1.move hS hc⟩
 lt:=λ⟨va,vc,pa,pc,ma,mc,h,h1⟩=>⟨va,vc,pa,pc,ma,mc,h,h1.lt2⟩
def OwnQ.exs {R:nP} {B:Nat} {a:oA} {len cap:Nat} {xs:List EX} {S:nP} (h:OwnQ E7 w R B e (.slice a len cap) xs) (U:∀b,R b->S b) (V:∀b,B<=b->b<w.heap.size->S b):EXs S w xs a:=by
 by_cases M:xs=[]
 . exact gq M
 . obtain ⟨g,N,O,X,Y,G⟩:=h.rows M;simp only [gR] at O;obtain ⟨rfl,-,-⟩:=O;refine gt ⟨g,0,rfl,V g X Y,λi x Z=>?_⟩;obtain ⟨cs,hr,va,vc,pa,pc,ma,mc,rfl,h2⟩:=G i x Z;exact ⟨va,vc,pa,pc,ma,mc,by simpa [E7] using hr,h2.wide U⟩
def MapZ.ext {w w':wD} {m:Option Nat} {kvs:List (lB×Value)} (h:MapZ w m kvs) (x:Ext w w'):MapZ w' m kvs:=h.imp id λ⟨r,h1,h2⟩=>⟨r,h1,h2.ext x⟩
instance {kvs:List (lB×Value)}:LfE w w' (MapZ w m kvs) (MapZ w' m kvs):=⟨λx h=>Bk.MapZ.ext h x⟩
def MapZ.fr {S:nP} {w w':wD} {m:Option Nat} {kvs:List (lB×Value)} (h:MapZ w m kvs) (x:Fr S w w') (G:∀r,m=some r -> ¬S r):MapZ w' m kvs:=h.imp id λ⟨r,h1,h2⟩=>⟨r,h1,h2.fr x (G r h1)⟩
instance {S:nP} {kvs:List (lB×Value)}:LfF S w w' (MapZ w m kvs) (∀r,m=some r -> ¬S r) (MapZ w' m kvs):=⟨λx s h=>Bk.MapZ.fr h x s⟩
def BkAt (M X:nP) (w:wD) (bb:Nat) (es:List EX) (L:List AtV):Prop:= ∃ea ec r,Blk w bb [.slice ea es.length ec,.map (some r)]/\X bb/\EXs X w es ea/\RecAt M w r L/\(∀k,X k -> ¬M k/\k<w.heap.size) /\ ∀k,M k->k<w.heap.size
def BkAt.ext {M X:nP} {w w':wD} {G:Nat} {es:List EX} {L:List AtV} (h:BkAt M X w G es L) (x:Ext w w'):BkAt M X w' G es L:=by
 obtain ⟨U,V,r,Y,Z,h3,h4,O,h6⟩:=h;have:=x.size;exact ⟨U,V,r,Y.ext x,Z,h3.ext x,h4.ext x,λk N=>⟨(O k N).1,by have:=(O k N).2;omega⟩,λk N=>by have:=h6 k N;omega⟩
instance {X:nP} {L:List AtV}:LfE w w' (BkAt M X w r es L) (BkAt M X w' r es L):=⟨λx h=>Bk.BkAt.ext h x⟩
def BkAt.fr {M X T:nP} {w w':wD} {N:Nat} {es:List EX} {L:List AtV} (h:BkAt M X w N es L) (x:Fr T w w') (O:∀k,X k\/M k -> ¬T k):BkAt M X w' N es L:=by
 obtain ⟨Y,Z,r,h1,U,h3,h4,V,h6⟩:=h;have:=x.size;exact ⟨Y,Z,r,h1.fr x (O _ (gq U)),U,h3.fr x (λk G=>O k (gq G)),h4.fr x (λk G=>O k (gt G)),λk G=>⟨(V k G).1,by have:=(V k G).2;omega⟩,λk G=>by have:=h6 k G;omega⟩
instance {X T:nP} {N:Nat} {L:List AtV}:LfF T w w' (BkAt M X w N es L) (∀k,X k\/M k -> ¬T k) (BkAt M X w' N es L):=⟨λx s h=>Bk.BkAt.fr h x s⟩
def RecAt.look {L:List AtV} (h:RecAt M w r L) (s:Bv):∃kvs m,MapIs w r kvs/\Cv (Ej kvs s) (.map none) false = .map m/\MapZ w m (GS L s)/\(m.isNone=decide (s∉Bj L)):=by
 obtain ⟨bf,N,U,O,-⟩:=h;by_cases G:s∈Bj L
 . refine ⟨_,some (bf s),N.is,?_,gt ⟨_,rfl,(O s G).2.2.is⟩,by simp [G]⟩;rw [Fv (λs=>.map (some (bf s))),AQ G];rfl
 . refine ⟨_,none,N.is,?_,gq ⟨rfl,?_⟩,by simp [G]⟩
   . rw [Fv (λs=>.map (some (bf s))),AB G];rfl
   . unfold GS;rw [Me G];rfl
section
variable {P:Program} {n:Nat} {l:Sl} {tab:Tab} {ty:TypeId}
def C0 {y:Operand} {N h:Nat} {c:Bool} {k:lB} {z:Value} {kvs:List (lB×Value)} (T:TabOk P tab) (O:Az tab t=some (.map N e,h)) (M:Az tab N=some (.str,sz)) (U:((P.info? e).bind (·.zero))=some z)
 (V:ev l x=some (.map (some r))) (X:ev l y=some (str k)) (Y:Cv (Ej kvs k) z c=v) (Z:∀w,S w->MapIs w r kvs):Bh P n l S (.lookup t x y c) ty v:=by
 rw [<-Y];exact Lk T O M U V X Z
def Ff {y:Operand} {N h:Nat} {c:Bool} {k:lB} {z:Value} {kvs:List (lB×Value)} (T:TabOk P tab) (O:Az tab t=some (.map N e,h)) (M:Az tab N=some (.str,r)) (U:((P.info? e).bind (·.zero))=some z)
 (V:ev l x=some (.map m)) (X:ev l y=some (str k)) (Y:Cv (Ej kvs k) z c=v) (Z:∀w,S w->MapZ w m kvs):Bh P n l S (.lookup t x y c) ty v:=by
 rw [<-Y];exact Qs T O M U V X Z
end
def GT (M X:nP) (N:Nat) (es:List EX) (L:List AtV) (s n:Bv) (w:wD) (U:BkAt M X w N es L) :
 Calls prog 17 #[.pointer (some ⟨N,0,none⟩),str s,str n] w λe w'=>e = .returned (.int .i64 (C4 L s n))/\Ext w w':=by
 have V:=iK w;obtain ⟨ea,ec,r,h1,-,-,Y,-,-⟩:=U;obtain ⟨kvs,m,q1,Z,q3,-⟩:=Y.look s;have O:=OF L s n;unfold Ho at O;refine Ad func17 ntmps17 rfl rfl (eK ?_);refine C1 (Ee Ac rfl rfl) (eK ?_);refine C1 (C0 Ac rfl rfl rfl rfl rfl Z (λh G=>by rw [show h=_ from G];assumption)) (C1 Mv (C1 (Ff Ac rfl rfl rfl rfl rfl O (λh G=>by rw [show h=_ from G];assumption)) (C1 (JR Ac rfl rfl rfl rfl rfl rfl) (kR ?_))));exact ⟨rfl,V⟩
def Qu (L:List AtV) (s:Bv):∀a b:List (Bv×Int),Cf L s (a++b)=Cf L s a+Cf L s b
 | [],b=>by simp [Cf]
 | x::a,b=>by rw [List.cons_append,Cf,Cf,Qu L s a b,Int.add_assoc]
def Ir (es:List EX):List (Bv×Int):=es.map λe=>(e.name,e.points)
def ZW (L:List AtV) (s:Bv):∀es:List EX,(∀e∈es,0<=e.points/\e.points<=1000)->0<=Cf L s (Ir es)/\Cf L s (Ir es)<=1000*es.length
 | [],_=>by simp [Ir,Cf]
 | e::es,h=>by
  have N:=ZW L s es (λx G=>h x (List.mem_cons_of_mem _ G));have O:=h e List.mem_cons_self;have M:Ir (e::es)=(e.name,e.points)::Ir es:=rfl;rw [M,Cf,gD];simp only;split<;>omega
def Fw (M X:nP) (bb:Nat) (es:List EX) (he:es.length<=1000) (hp:∀e∈es,0<=e.points/\e.points<=1000) (L:List AtV) (s:Bv) (w:wD) (hb:BkAt M X w bb es L) :
 Calls prog 16 #[.pointer (some ⟨bb,0,none⟩),str s] w λe w'=>e = .returned (.int .i64 (Cf L s (Ir es)))/\Ext w w':=by
 have O:=iK w;obtain ⟨ea,ec,r,h,-,G,h4,-,-⟩:=hb;obtain ⟨kvs,m,N,q2,U,-⟩:=h4.look s;have G:=G.ltA;have hv:=λn=>OF L s n
 unfold Ho at hv;have HP:=gp hp;clear h4 hp;refine Ad func16 ntmps16 rfl rfl (eK ?_);refine C1 (Ee Ac rfl rfl) (cT (AY rfl (Ao (Ai (cS (C1 Pa (cT (Aj (cS (C1 Mv (C1 Pn (C1 Pg (C1 (Pl h) (C1 Pz (C1 Mv (cT ?_))))))))))))))));refine As ?_;refine AG (ι:=Nat) (λj=>[(0,.pointer (some ⟨bb,0,none⟩)),(1,str s),(5,.int .i64 (Cf L s (Ir (es.take j)))),(13,.slice ea es.length ec),(14,.int .i64 es.length),(15,.int .i64 j)])
  (λj w'=>j<=es.length/\Blk w' bb [.slice ea es.length ec,.map (some r)]/\EXs (· < w.heap.size) w' es ea/\MapIs w' r kvs/\MapZ w' m (GS L s)/\Ext w w') (λj=>es.length-j) 0 sB ⟨gC _,h,G,N,U,O⟩ ?_
 clear h G N U O;rintro j w1 ⟨hj,h,G,N,U,O⟩;by_cases af:j<es.length
 . obtain ⟨kb,ko,rfl,-,hk⟩:=i8 G Ab;obtain ⟨va,vc,pa,pc,ma,mc,rx,-⟩:=hk j _ (gm af);have aw:=HP.out _ (gA af);have ax:=ZW L s (es.take j) (λe he=>HP.out e (List.mem_of_mem_take he));have av:(es.take j).length<=1000:=by rw [ij];omega
   have ab:Cf L s (Ir (es.take (j+1)))=Cf L s (Ir (es.take j))+if Cb L s es[j].name then es[j].points else 0:=by
    unfold Ir;rw [gx af,List.map_append,Qu];simp [Cf]
   clear hk HP;generalize Cf L s (Ir (es.take j))=sm at *;generalize es[j]=x at *;unfold jg at rx;by_cases hs:Cb L s x.name=true
   . have Y:=hv x.name;rw [hs] at Y;rw [AQ hs] at ab;refine eK ?_;refine xA [_,_,_,_,_,_,_,_,_,_,_,_] ?_;intro ay az am;refine eI [_,_,_,_,_,_,_,_,_,_,_,_] am ?_;intro ai ac an _ _;revert N U O h G;refine eE an ?_;intro N U O h G;refine eK ?_;refine Aq (λV=>Ext ai V) 8 (.pure 0 (.pure 1 (.pure 2 (.pure 3 (.pure 4 (.pure 5 (.pure 6 (.pure 7 .tail)))))))) mixed AT (Aa (Ae (Aa (Aa (Ae (Aa Ag)))))) ?_;intro ao ad _;have Z:(λV=>Ext ai V) ao:=ad;simp only at Z;have ag:=ac;have aj:=N;have ak:=h;revert ac N U O h G;refine eE ad ?_;intro ac N U O h G;refine ⟨Z,?_⟩;refine eT ?_;refine Tq rfl (C0 Ac rfl rfl rfl rfl rfl q2 (λV hz=>MapIs.ext Af hz)) (Tq rfl Pg (Tq rfl (Db ag) (At rfl (C1 (Ff Ac rfl rfl rfl rfl rfl Y (λV hz=>by rw [show V=_ from hz];assumption)) (C1 (JR Ac rfl rfl rfl rfl rfl rfl) (cT (BJ rfl (Al (C1 Mv (C1 Pf (C1 (Pl ac) (C1 V7 (C1 Pa (Ak (Ah (Ai (Al (C1 V7 (C1 Mv (Ak ?_))))))))))))))))))));exact Aw (j+1) (by rw [ab];(refine Am rfl ?_;refine Am rfl ?_;refine Am rfl ?_;refine Am rfl ?_;refine Am rfl ?_;refine Am rfl ?_;exact BB)) ⟨Ab,h,G,N,U,O⟩ Ab
   . rw [AB hs,Int.add_zero] at ab;have Y:=hv x.name;rw [Bool.not_eq_true] at hs;rw [hs] at Y;refine eK ?_;refine xA [_,_,_,_,_,_,_,_,_,_,_,_] ?_;intro a0 a1 ap;refine eI [_,_,_,_,_,_,_,_,_,_,_,_] ap ?_;intro al aq ar _ _;revert N U O h G;refine eE ar ?_;intro N U O h G;refine eK ?_;refine Aq (λV=>Ext al V) 8 (.pure 0 (.pure 1 (.pure 2 (.pure 3 (.pure 4 (.pure 5 (.pure 6 (.pure 7 .tail)))))))) mixed AT (Aa (Ae (Aa (Aa (Ae (Aa Ag)))))) ?_;intro au ae _;have aa:(λV=>Ext al V) au:=ae;simp only at aa;have ah:=aq;have aj:=N;have ak:=h;revert N U O h G;refine eE ae ?_;intro N U O h G;refine ⟨aa,?_⟩;refine eT ?_;refine Tq rfl (C0 Ac rfl rfl rfl rfl rfl q2 (λV hz=>MapIs.ext Af hz)) (Tq rfl Pg (Tq rfl (Db ah) (At rfl (C1 (Ff Ac rfl rfl rfl rfl rfl Y (λV hz=>by rw [show V=_ from hz];assumption)) (C1 (JR Ac rfl rfl rfl rfl rfl rfl) (cT (AY rfl (Ao (Ah (Ai (Al (C1 V7 (C1 Mv (Ak ?_))))))))))))));exact Aw (j+1) (by rw [ab];(refine Am rfl ?_;refine Am rfl ?_;refine Am rfl ?_;refine Am rfl ?_;refine Am rfl ?_;refine Am rfl ?_;exact BB)) ⟨Ab,h,G,N,U,O⟩ Ab
 . obtain rfl:j=es.length:=by omega
   rw [gF] at *;refine kR ?_;exact ⟨rfl,O⟩
def EI:∀x y:lB,Op.bytesLess x y=decide (x<y)
 | [],[]=>by simp [Op.bytesLess]
 | [],b::y=>by simp [Op.bytesLess]
 | a::x,[]=>by simp [Op.bytesLess]
 | a::x,b::y=>by
  simp only [Op.bytesLess,EI x y,List.cons_lt_cons_iff];by_cases h:a<b
  . simp [h]
  . by_cases G:a=b
    . simp [G]
    . simp [h,G]
section
variable {P:Program} {n:Nat} {l:Sl} {S:wD->Prop} {t t' ty:TypeId} {x y:Operand} {a b:lB}
def JC (G:ev l x=some (str a)) (M:ev l y=some (str b)):Bh P n l S (.binOp .lss t x y t') ty (.bool (decide (a<b))):=by
 unfold Bh;intro N w O pos after g h _;have e:=EI a b;simp only [execOp,h.ev G,h.ev M,gE,Dg,gw,binOp_string_lss,gP,Fh,e]
def Qv (O:ev l x=some (str a)) (U:ev l y=some (str b)):Bh P n l S (.binOp .gtr t x y t') ty (.bool (decide (b<a))):=by
 unfold Bh;intro V w X pos after g N _;have e:=EI a b;have Y:(!(Op.bytesLess a b||a==b))=decide (b<a):=by
  rw [e];by_cases h:b<a
  . have M:¬a<b:=λG=>List.lt_irrefl _ (List.lt_trans h G)
    have G:¬a=b:=λG=>List.lt_irrefl b (G▸h)
    simp [h,M,G]
  . by_cases M:a=b
    . subst M;simp [List.lt_irrefl]
    . have:a<b:=Decidable.by_contra λG=>M (List.le_antisymm (List.not_lt.1 h) (List.not_lt.1 G))
      simp [h,this]
 simp only [execOp,N.ev O,N.ev U,gE,Dg,gw,binOp_string_gtr,gP,Fh,Y]
def Wz (G:ev l x=some (str a)) (M:ev l y=some (str b)):Bh P n l S (.binOp .geq t x y t') ty (.bool (decide (b<=a))):=by
 unfold Bh;intro N w O pos after g h _;have e:(!(Op.bytesLess a b))=decide (b<=a):=by rw [EI,<-decide_not];exact decide_eq_decide.2 List.not_lt
 simp only [execOp,h.ev G,h.ev M,gE,Dg,gw,binOp_string_geq,gP,Fh,e]
end
def Rs (es:List EX) (n:Bv):Option Nat:=es.findIdx? (λe=>decide (e.name=n))
def ER (es:List EX) (n:Bv):Int:=match Rs es n with
 | some i=>(i:Int)
 | none=> -1
def YR (e:EX) (G M N:oA) (vc O U bs:Nat) (s:Bv) (w:wD) (h:Blk w bs [str s]):Calls prog 57 #[.agg (e.cells G vc M O N U).toArray,.pointer (some ⟨bs,0,none⟩)] w λr w'=>r = .returned (.bool (decide (e.name=s)))/\Ext w w':=by
 have X:=iK w;unfold jg;refine Ad func57 ntmps57 rfl rfl (cS (eB [_,_,_,_,_,_,_,_,_,_,_,_] ?_));intro Y Z h4 V _ _;revert h X;refine eE V ?_;intro h X;refine kR ?_;exact ⟨rfl,X⟩
def WA (l:List EX) (hl:l.length<=1000000) (s:Bv) (S:nP) (a:oA) (c bs:Nat) (w:wD) (G:EXs S w l a) (N:Blk w bs [str s]) :
 Calls prog 56 #[.slice a l.length c,.func (.func 57) #[] #[.pointer (some ⟨bs,0,none⟩)]] w λe w'=>e = .returned (.int .i64 (ER l s))/\Ext w w':=by
 have X:=iK w;have G:=G.ltA;refine Ad func56 ntmps56 rfl rfl (cS (C1 Pa (cT (Aj (cS (C1 Mv (C1 Pz (C1 Mv (cT ?_)))))))));refine As ?_;refine AG (ι:=Nat) (λj=>[(0,.slice a l.length c),(1,.func (.func 57) #[] #[.pointer (some ⟨bs,0,none⟩)]),(6,.slice a l.length c),(7,.int .i64 l.length),(8,.int .i64 j)])
  (λj w'=>j<=l.length/\EXs (· < w.heap.size) w' l a/\Blk w' bs [str s]/\Ext w w'/\(l.take j).findIdx? (λp=>decide (p.name=s))=none)
  (λj=>l.length-j) 0 sB ⟨gC _,G,N,X,rfl⟩ ?_
 clear G N X;rintro j w1 ⟨hj,G,N,X,M⟩;by_cases O:j<l.length
 . obtain ⟨kb,ko,rfl,-,hk⟩:=i8 G Ab;obtain ⟨va,vc,pa,pc,ma,mc,ry,-⟩:=hk j l[j] (gm O);have U:=F4 O M;have V:l[j].name=s->ER l s=j:=λh=>by
    rw [AQ (by simpa using h)] at U;rw [ER,Rs,F5 U]
   have HX:=gp (λw1 h=>YR l[j] va pa ma vc pc mc bs s w1 h);clear hk M;generalize l[j]=y at *;unfold jg at *
   focus
    refine eK ?_;refine Ax (A9 (fi:=[]) (ca:=[.pointer (some ⟨bs,0,none⟩)]) AT rfl rfl (HX.out _ Af) (λ_ _ h=>⟨_,h.1⟩)) rfl ?_ aFh;rintro _ aa ⟨⟨⟩,Y⟩;revert N X G;refine eE Y ?_;intro N X G;refine cT (Ay rfl (λZ=>?_) (λZ=>?_));refine kR ?_;rotate_left;refine Ao (Ah (Ai (Al (C1 V7 (C1 Mv (Ak ?_))))));rotate_left
   . exact ⟨by rw [V Af],X⟩
   . exact Aw (j+1) sB ⟨Ab,G,N,X,U.trans (AB (by simpa using Af))⟩ Ab
 . obtain rfl:j=l.length:=by omega
   rw [gF] at M;have he:ER l s = -1:=by rw [ER,Rs,M]
   rw [he];refine kR ?_;exact ⟨rfl,X⟩
def OG (M:Nat) (es:List EX) (V:es.length<=1000000) (s:Bv) (S:nP) (G:oA) (N:Nat) (m:Value) (w:wD) (O:Blk w M [.slice G es.length N,m]) (U:i6 m=true) (h:EXs S w es G) :
 Calls prog 30 #[.pointer (some ⟨M,0,none⟩),str s] w λe w'=>e = .returned (.int .i64 (ER es s))/\Ext w w':=by
 have X:=iK w;have h:=h.ltA;have Y:=gp (λbs w1 U Z=>WA es V s (· < w.heap.size) G N bs w1 U Z);refine Ad func30 ntmps30 rfl rfl (cS (eB [_] ?_));intro b1 w2 h4 x5 _ _;revert O X h;refine eE x5 ?_;intro O X h;refine eK ?_;refine C1 (BW rfl) (cC rfl (Y.out _ _ Af Af) ?_);rintro _ w9 ⟨⟨⟩,x8⟩;have X:=X.ext x8;refine kR ?_;exact ⟨rfl,X⟩
def NC:∀(l:List Nat) (j:Nat) (x:Nat),l[j]? = some x->(l.eraseIdx j).sum+x=l.sum
 | [],j,x,h=>by simp at h
 | y::l,0,x,h=>by
  simp only [gX,gy] at h;simp [h,Nat.add_comm]
 | y::l,j+1,x,h=>by
  have:=NC l j x (by simpa using h);simp only [List.eraseIdx_cons_succ,List.sum_cons];omega
def Kc {α β:Type} (f:α->β):∀(l:List α) (j:Nat),(l.map f).eraseIdx j=(l.eraseIdx j).map f
 | [],_=>by simp
 | x::l,0=>by simp
 | x::l,j+1=>by simp [Kc f l j]
def YS (M X:nP) (bb:Nat) (es:List EX) (L:List AtV) (hL:L.length<=1000000) (s:Bv) (hs:s∈Bj L) (w:wD) (hb:BkAt M X w bb es L) :
 Calls prog 39 #[.pointer (some ⟨bb,0,none⟩),str s] w λe w'=>e = .returned (.int .i64 (DU L s))/\Ext w w':=by
 have h:=iK w;obtain ⟨ea,ec,r,h1,-,h3,⟨bf,g1,-,g3,-⟩,-,-⟩:=hb;obtain ⟨-,-,g4⟩:=g3 s hs;have hv:Cv (Ej ((Bj L).map λs=>(s,Value.map (some (bf s)))) s) (.map none) false = .map (some (bf s)):=by
  rw [Fv (λs=>.map (some (bf s))),AQ hs];rfl
 have ad:=g1.is;have O:=YO L s;have al:DU L s<=1000000:=Nat.le_trans (List.countP_le_length ..) hL;clear g3 h3 g1 hs;unfold GS at g4;generalize bf s=b2 at *;refine Ad func39 ntmps39 rfl rfl (eK ?_);refine C1 (C0 Ac rfl rfl rfl rfl rfl hv (λwz hz=>by rw [show wz=_ from hz];assumption)) (Ax (KS Ac rfl rfl Af) rfl ?_ aFh);rintro _ w6 ⟨r1,rfl,h2,h3,h4,x5⟩;have h:=h.ext x5;refine cT ?_;clear hv h1 ad;refine As ?_;refine AG (ι:=List Bv×Nat) (λx=>[(5,.int .i64 x.2),(14,.pointer (some ⟨r1,0,none⟩))])
  (λx w'=> ∃cur,ItM w' r1 b2 (x.1.map λn=>(n,Ho L s n)) cur/\x.2+(x.1.map λn=>C4 L s n).sum=DU L s/\Ext w w') (λx=>x.1.length) (Qq L s,0) sB ⟨none,h4,by simpa using O,h⟩ ?_
 clear h4 h h3 O;rintro ⟨ns,sm⟩ w7 ⟨cur,h4,G,h⟩;simp only at h4 G;refine CW.sub (m:=[(5,.int .i64 sm),(14,.pointer (some ⟨r1,0,none⟩))]) ?_ sB;cases ns with
 | nil=>
  simp only [List.map_nil,List.sum_nil,Nat.add_zero] at G h4;subst G;refine cS (Ax (KT rfl Af) rfl ?_ aFh);rintro _ am ⟨rfl,rfl⟩;refine kR ?_;exact ⟨rfl,h⟩
 | cons n0 ae=>
  generalize aa:n0::ae=ns at *;have ab:(ns.map λn=>(n,Ho L s n))≠[]:=by rw [<-aa];simp
  refine cS (Ax (Md rfl Af ab) rfl ?_ aFh);rintro _ ao ⟨U,ap,V,rfl,N,af⟩;have h:=h.fr af Ab;refine C1 Px (cT (Aj (BJ rfl (Ao (Ai (As ?_))))));rw [gV] at V;obtain ⟨Z,Y,rfl⟩:=Option.map_eq_some_iff.1 V;rw [Kc] at N;have ag:=NC (ns.map λn=>C4 L s n) U (C4 L s Z) (by rw [gV,Y];rfl);rw [Kc] at ag;have ac:Ho L s Z = .agg #[.int .i64 (C4 L s Z),.bool (Cb L s Z)]:=rfl;have aq:=(List.getElem?_eq_some_iff.1 Y).1;have ah:(ns.eraseIdx U).length<ns.length:=by rw [List.length_eraseIdx];split<;>omega
  rw [ac] at N;clear V Y ac ab aa;generalize C4 L s Z=an at *;generalize Cb L s Z=sv at *;refine cS (C1 (Nz rfl (λwz hz=>by rw [show wz=_ from hz];assumption)) (C1 Px (xA [_,_] ?_)));intro ar au ai;refine eI [_,_] ai ?_;intro av aj ak _ _;revert h N;refine eE ak ?_;intro h N;refine cT (Al (C1 Mv (C1 Pg (C1 (Pl aj) (C1 V7 (C1 Pa (Ak (Ah ?_))))))));exact Aw (ns.eraseIdx U,sm+an) sB ⟨_,N,by simp only;omega,h⟩ ah
def Kd {α:Type} (lt:α->α->Bool) (x y:α):Int:=if lt x y then -1 else if lt y x then 1 else 0
def YT (x y:Int):Bool:=decide (x<y)
def ND (L:List AtV) (ps:List (Bv×Int)) (s t:Bv):Int:=
 if Kd YT (Cf L t ps) (Cf L s ps)≠0 then Kd YT (Cf L t ps) (Cf L s ps)
 else if Kd YT (DU L s) (DU L t)≠0 then Kd YT (DU L s) (DU L t) else Kd G0 s t
def WB (L:List AtV) (ps:List (Bv×Int)) (s t:Bv):decide (ND L ps s t<0)=MX L ps s t:=by
 unfold ND MX Kd YT G0;refine decide_eq_decide.2 ?_;simp only [decide_eq_true_eq];rcases Int.lt_trichotomy (Cf L t ps) (Cf L s ps) with h|h|h
 . simp [h]
 . have G:¬Cf L s ps<Cf L t ps:=by omega
   simp only [G,if_false,ne_eq,not_true_eq_false,false_or,h,true_and];rcases Nat.lt_trichotomy (DU L s) (DU L t) with g|g|g
   . simp [g]
   . simp only [g,Nat.lt_irrefl,Int.lt_irrefl,if_false,not_true_eq_false,false_or,true_and];by_cases k:s<t
     . simp [k]
     . simp only [k,if_false,iff_false];split<;>omega
   . have N:¬(DU L s:Int)<DU L t:=by omega
     have O:(DU L t:Int)<DU L s:=by omega
     have U:¬DU L s<DU L t:=by omega
     have V:¬DU L s=DU L t:=by omega
     simp [N,O,U,V]
 . have M:¬Cf L t ps<Cf L s ps:=by omega
   have G:¬Cf L s ps=Cf L t ps:=by omega
   simp [h,M,G]
def WC (x:Int) (w:wD):Calls prog 66 #[.int .i64 x] w λe w'=>e = .returned (.bool false)/\Ext w w':=by
 have X:=iK w;refine Ad func66 ntmps66 rfl rfl (kR ?_);exact ⟨AN,X⟩
def IX (x:Bv) (w:wD):Calls prog 67 #[str x] w λe w'=>e = .returned (.bool false)/\Ext w w':=by
 have X:=iK w;refine Ad func67 ntmps67 rfl rfl (kR ?_);exact ⟨AN,X⟩
def WD (x y:Int) (w:wD):Calls prog 38 #[.int .i64 x,.int .i64 y] w λe w'=>e = .returned (.int .i64 (Kd YT x y))/\Ext w w':=by
 have X:=iK w;unfold Kd YT;refine Ad func38 ntmps38 rfl rfl ?_
 focus
  refine kC (WC _ _) ?_;rintro _ O ⟨⟨⟩,h⟩;have X:=X.ext h;refine kC (WC _ _) ?_;rintro _ U ⟨⟨⟩,G⟩;have X:=X.ext G;refine eK ?_;refine Ay rfl (λM=>?_) (λM=>?_);refine kR ?_;rotate_left;refine eK ?_;refine Ay rfl (λN=>?_) (λN=>?_);refine kR ?_;rotate_left;refine kR ?_;rotate_left
 all_goals exact ⟨by simp [*],X⟩
def aM (x y:Bv) (w:wD):Calls prog 40 #[str x,str y] w λe w'=>e = .returned (.int .i64 (Kd G0 x y))/\Ext w w':=by
 have X:=iK w;unfold Kd G0;by_cases h1:x<y
 . refine Ad func40 ntmps40 rfl rfl ?_;refine kC (IX _ _) ?_;rintro _ w2 ⟨⟨⟩,O⟩;have X:=X.ext O;refine kC (IX _ _) ?_;rintro _ w5 ⟨⟨⟩,U⟩;have X:=X.ext U;refine eK ?_;refine C1 (JC rfl rfl) (kR ?_);exact ⟨by simp [*],X⟩
 . by_cases h2:y<x
   . refine Ad func40 ntmps40 rfl rfl ?_;refine kC (IX _ _) ?_;rintro _ V ⟨⟨⟩,h⟩;have X:=X.ext h;refine kC (IX _ _) ?_;rintro _ Y ⟨⟨⟩,G⟩;have X:=X.ext G;refine eK ?_;refine C1 (JC rfl rfl) (eK ?_);refine C1 (Qv rfl rfl) (kR ?_);exact ⟨by simp [*],X⟩
   . refine Ad func40 ntmps40 rfl rfl ?_;refine kC (IX _ _) ?_;rintro _ Z ⟨⟨⟩,M⟩;have X:=X.ext M;refine kC (IX _ _) ?_;rintro _ aa ⟨⟨⟩,N⟩;have X:=X.ext N;refine eK ?_;refine C1 (JC rfl rfl) (eK ?_);refine C1 (Qv rfl rfl) (kR ?_);exact ⟨by simp [*],X⟩
def E8 (l:List EX):Int:=if 100<l.length then 5 else if ∀e∈l,e.valid then (if (l.map (·.name)).Nodup then 0 else 22) else 3
def fB (l:List EX) (w:wD):Ending->wD->Prop:=λe w'=> ∃p k,e = .returned (.tuple #[.pointer p,.int .i64 k])/\k=E8 l/\Ext w w'/\((p=none/\k≠0)\/(k=0 /\ ∃bb M X,p=some ⟨bb,0,none⟩/\BkAt M X w' bb l [] /\ ∀k,X k\/M k->w.heap.size<=k))
def exIV_mem:0<=ER es n↔n∈es.map (·.name):=by
 unfold ER Rs;cases h:es.findIdx? (λe=>decide (e.name=n)) with
 | none=>
  rw [List.findIdx?_eq_none_iff] at h;simp only [List.mem_map];constructor
  . intro G;omega
  . rintro ⟨e,M,rfl⟩;have:=h e M;simp at this
 | some i=>
  obtain ⟨N,G,-⟩:=List.findIdx?_eq_some_iff_getElem.1 h;simp only [List.mem_map];exact ⟨λ_=>⟨_,gA N,by simpa using G⟩,λ_=>by omega⟩
def WE (h:n∉es.map (·.name)):ER es n = -1:=by
 have G:=λM=>h (exIV_mem.1 M)
 unfold ER at G ⊢;split at G
 . exact absurd (Int.natCast_nonneg _) G
 . rfl
def R5 {l:List α} {x:α} (h:l.Nodup) (M:x∉l):(l++[x]).Nodup:=by
 rw [List.nodup_append];exact ⟨h,AN,λa N b G e=>M (by simp only [ia] at G;rw [<-G,<-e];exact N)⟩
set_option maxHeartbeats 8000000 in
def WG (l:List EX) (hw:∀e∈l,e.wf) (hl:l.length<=1000000) (S:nP) (a:oA) (c:Nat) (w:wD) (M:EXs S w l a) :
 Calls prog 13 #[.slice a l.length c] w (fB l w):=by
 have X:=iK w;have M:=M.ltA;by_cases af:100<l.length
 . have hv:E8 l=5:=AQ af;refine Ad func13 ntmps13 rfl rfl (kT ?_);exact ⟨_,_,rfl,hv.symm,X,gq ⟨rfl,Ab⟩⟩
 have HV:=gp (λe he S va pa ma vc pc mc w1 h=>J7 e (hw e he) S va vc pa pc ma mc w1 h);refine Ad func13 ntmps13 rfl rfl (cS (C1 Pa (C1 Pa (cT (Aj (cS (C1 Mv (C1 Pz (C1 V5 (cT (C6 (Ao (Ai (Aj (cS (C1 Mv (C1 Pz (C1 Mv (cT ?_)))))))))))))))))));refine As ?_;refine AG (ι:=Nat) (λj=>[(0,.slice a l.length c),(12,.slice a l.length c),(13,.int .i64 l.length),(14,.int .i64 j)])
  (λj w'=>j<=l.length/\(∀e∈l.take j,e.valid)/\EXs (· < w.heap.size) w' l a/\Ext w w') (λj=>l.length-j) 0 sB ⟨gC _,AN,M,X⟩ ?_
 clear M X;rintro j w1 ⟨hj,ai,M,X⟩;by_cases ab:j<l.length
 . obtain ⟨kb,ko,rfl,-,Y⟩:=i8 M Ab;obtain ⟨va,vc,pa,pc,ma,mc,rx,sx⟩:=Y j l[j] (gm ab);have am:=gp (λ(S:nP) w1 (h:l[j].sits S w1 va pa ma vc)=>HV.out l[j] (gA ab) S va pa ma vc pc mc w1 h);have bd:l[j].valid -> ∀e∈l.take (j+1),e.valid:=λh e he=>by
    rw [gx ab,List.mem_append,ia] at he;rcases he with he|rfl
    . exact ai e he
    . exact h
   have be:¬l[j].valid->E8 l=3:=λh=>by
    unfold E8;rw [AB af,AB (λh2=>h (h2 _ (gA ab)))]
   clear Y ai HV;generalize l[j]=x at *;unfold jg at *;by_cases hv:x.valid
   . rw [decide_eq_true hv] at am;refine eK ?_;refine xA [_,_,_,_,_,_,_,_,_,_,_,_] ?_;intro cv cw bf;refine eI [_,_,_,_,_,_,_,_,_,_,_,_] bf ?_;intro cx bg bh _ _;revert X M sx;refine eE bh ?_;intro X M sx;refine cN (A3 [_,_,_,_,_,_,_,_,_,_,_,_] Ac rfl rfl rfl bg rfl rfl rfl (cC rfl (am.out _ _ Af) ?_));rintro _ b4 ⟨⟨⟩,bi⟩;revert X M;refine eE bi ?_;intro X M;refine C1 Pt (cT (AY rfl (Ao (Ah (Ai (Al (C1 V7 (C1 Mv (Ak ?_)))))))));exact Aw (j+1) sB ⟨Ab,bd hv,M,X⟩ Ab
   . rw [decide_eq_false hv] at am;refine eK ?_;refine xA [_,_,_,_,_,_,_,_,_,_,_,_] ?_;intro cy cz bj;refine eI [_,_,_,_,_,_,_,_,_,_,_,_] bj ?_;intro c0 bk bl _ _;revert X sx;refine eE bl ?_;intro X sx;refine cN (A3 [_,_,_,_,_,_,_,_,_,_,_,_] Ac rfl rfl rfl bk rfl rfl rfl (cC rfl (am.out _ _ Af) ?_));rintro _ b5 ⟨⟨⟩,bm⟩;have X:=X.ext bm;refine kT ?_;exact ⟨_,_,rfl,(be hv).symm,X,gq ⟨rfl,Ab⟩⟩
 . obtain rfl:j=l.length:=by omega
   rw [gF] at ai;clear HV;have c1:=X.size;refine eK ?_;refine Ax (ID) rfl ?_ aFh;rintro _ c2 ⟨ah,rfl,c3,an,bn,c4⟩;revert M X;refine eE bn ?_;intro M X;refine C1 (xB [_,_]) (eB [_,_] ?_);intro O c5 aj a1 b6 b7;revert an M X;refine eE a1 ?_;intro an M X;refine C1 Pa (cT (Aj (cS (C1 Mv (C1 Pz (C1 Mv (cT ?_)))))));have ao:=gp ai;have ap:=aj.lt;refine As ?_;refine AG (ι:=Nat×oA×Nat) (λy=>[(6,.pointer (some ⟨O,0,none⟩)),(25,.slice a l.length c),(26,.int .i64 l.length),(27,.int .i64 y.1)])
    (λy w'=>y.1<=l.length/\((l.take y.1).map (·.name)).Nodup/\Blk w' O [.slice y.2.1 (l.take y.1).length y.2.2,.map (some ah)]/\OwnQ E7 w' (λb=>O<b) (O+1) 36 (.slice y.2.1 (l.take y.1).length y.2.2) (l.take y.1)/\MapB w' ah []/\EXs (· < w.heap.size) w' l a/\Ext w w'/\O<w'.heap.size) (λy=>l.length-y.1) (0,none,0) sB ⟨gC _,AN,aj,OwnQ.nil,an,M,X,ap⟩ ?_
   clear M X aj an ap ai;rintro ⟨j,ra,rc⟩ w3 ⟨hj,aq,U,G,hm,M,X,ap⟩;simp only at hj aq U G;refine CW.sub (m:=[(6,.pointer (some ⟨O,0,none⟩)),(25,.slice a l.length c),(26,.int .i64 l.length),(27,.int .i64 j)]) ?_ sB;have ac:∀q,(gN ra (l.take j).length rc).ownBlock=some q->O<q/\q<w3.heap.size:=λq hq=>⟨G.ge hq,G.lt hq⟩
   have bo:(l.take j).length<=1000000:=by rw [ij];omega
   have G:=G.ltR;by_cases ab:j<l.length
   . obtain ⟨kb,ko,rfl,-,Y⟩:=i8 M Ab;obtain ⟨va,vc,pa,pc,ma,mc,rx,sx⟩:=Y j l[j] (gm ab);have az:=gp (λw1 (h1:Blk w1 O [.slice ra (l.take j).length rc,.map (some ah)]) (h2:OwnQ E7 w1 (λb=>O<b/\b<w3.heap.size) (O+1) 36 (.slice ra (l.take j).length rc) (l.take j))=>OG O (l.take j) bo l[j].name (λb=>O<b) ra rc (.map (some ah)) w1 h1 rfl (h2.exs (λb h=>h.1) (λb h1 h2=>h1)));have ad:=exIV_mem (es:=l.take j) (n:=l[j].name);have a2:=ao.out _ (gA ab);have a3:=gp (λ(S:nP) va vc pa pc ma mc w1 (h:l[j].g.sits S w1 va pa ma)=>Wx l[j].g (OB a2.2.1.1) S va vc pa pc ma mc w1 h);have ae:l.take j++[l[j]]=l.take (j+1):=(gx ab).symm;have a0:¬(l.map (·.name)).Nodup\/l[j].name∉(l.take j).map (·.name):=by
      by_cases h:l[j].name∈(l.take j).map (·.name)
      . left;intro hn;rw [<-List.take_append_drop j l,List.map_append,List.nodup_append] at hn;exact hn.2.2 _ h _ (List.mem_map.2 ⟨l[j],io (i:=0) (by rw [List.getElem?_drop];simp [ab]),rfl⟩) rfl
      . exact gt h
     have a4:¬(l.map (·.name)).Nodup->E8 l=22:=λh=>by
      unfold E8;rw [AB af,AQ ao.out,AB h]
     have ar:=sx.g;clear Y sx a2 ao;generalize l[j]=x at *;generalize c6:l.take j=ys at *;by_cases hd:x.name∈ys.map (·.name)
     . have c7:0<=ER ys x.name:=ad.2 hd;have bp:=a4 (a0.resolve_right (λh=>h hd));clear ad a0 a3;generalize ER ys x.name=ix at *;unfold jg at *;refine eK ?_;refine xA [_,_,_,_,_,_,_,_,_,_,_,_] ?_;intro c8 c9 bq;refine eI [_,_,_,_,_,_,_,_,_,_,_,_] bq ?_;intro da db br _ _;revert X U G;refine eE br ?_;intro X U G;refine kC (az.out _ Af Af) ?_;rintro _ b8 ⟨⟨⟩,bs⟩;have X:=X.ext bs;refine kT ?_;exact ⟨_,_,rfl,bp.symm,X,gq ⟨rfl,Ab⟩⟩
     . have a5:=WE hd;have a6:((ys++[x]).map (·.name)).Nodup:=by rw [List.map_append];exact R5 aq hd
       rw [a5] at az;have dc:=X.size;clear ad a0 a5 a4 hd aq;unfold jg at *;refine eK ?_;refine xA [_,_,_,_,_,_,_,_,_,_,_,_] ?_;intro dd de bt;refine eI [_,_,_,_,_,_,_,_,_,_,_,_] bt ?_;intro df ak bu dg dh;revert hm X M ar U G;refine eE bu ?_;intro hm X M ar U G;refine kC (az.out _ Af Af) ?_;rintro _ b9 ⟨⟨⟩,bv⟩;revert ak hm X M ar U G;refine eY bv ?_;intro ca ak hm X M ar U G;refine kQ (a3.out _ _ _ _ _ _ _ _ Af) ?_;rintro _ cb ⟨bw,bx,bz,b0,b1,b2,⟨⟩,Z,aa,cc,a7⟩;revert ak hm X M U G;refine eY a7 ?_;intro cd ak hm X M U G;refine C1 Pf (eV [_,_,_,_,_,_] [_,_,_,_,_,_,_,_,_,_,_,_] ak ?_);intro av a8 al ce;revert Z aa hm X M;refine eF al ?_;intro Z aa hm X M;clear rx;have U:=U.fr al Ab;have G:=OwnQ.fr G al (λk Y=>⟨by (try dsimp only at Y);omega,λe=>by have:=ac _ e;(try dsimp only at Y);omega⟩);refine cT (Aq (λwz=>Fr ((gN ra ys.length rc).ownBlock=some ·) av wz) 8 (.pure 0 (.pure 1 (.pure 2 (.pure 3 (.pure 4 (.pure 5 (.fork 6 (.fork 7 .tail .none) .none))))))) mixed AT (Ae (Aa (Aa (Ae (Aa Ag))))) ?_);intro a9 aw _;have N:(λwz=>Fr ((gN ra ys.length rc).ownBlock=some ·) av wz) a9:=iM aw;simp only at N;have au:=a8;have ba:=U;revert Z aa hm X M U G;refine eY aw ?_;intro cf Z aa hm X M U G;refine ⟨N,?_⟩;refine eT ?_;refine Tq rfl (Ap Ac rfl rfl rfl (λwz hz=>iV (iO ba hz (λe=>by have:=ac _ e;omega)) rfl)) (Tq rfl (xL [_,_,_,_,_,_,_,_,_,_,_,_] (λwz hz=>(iO au hz (λe=>by have:=ac _ e;omega)))) (AE rfl (xS [_,_,_,_,_,_,_,_,_,_,_,_]) rfl ?_ aFh AD));rintro _ cg ⟨ch,rfl,ag,ci⟩;have cj:=ag.blk;have bb:=ag.ext;have ck:=ag.pos;have cl:=ag.size;revert N Z aa hm X M U G;refine eE bb ?_;intro N Z aa hm X M U G;refine ⟨N,?_⟩;refine AE rfl (GN (R:=λb=>O<b) (sh:=E7) (z:=x) Ac Cs rfl rfl rfl rfl AT rfl rfl rfl Af (λ_ h=>by exact h.1) (i7 Af) ⟨_,_,_,_,_,_,rfl,PG.sits.wide Af (λb h=>⟨Ab,λe=>by have:=ac _ e;omega⟩),PDsC.wide Af (λb h=>⟨Ab,λe=>by have:=ac _ e;omega⟩),Af⟩ Ab Ab) rfl ?_ aFh AD
       rintro _ cm ⟨cn,bc,rfl,ax,co,cp,V⟩;have cq:=V.size;have N:=iU N V (λk Y=>gq Y);have hm:=MapB.fr hm V (λe=>by have:=ac _ e;omega);have X:=Ext.fr X V (λk Y=>by have:=ac _ Y;omega);have M:=EXs.fr M V (λb U hT=>by have:=ac _ hT;(try dsimp only at U);omega);have U:=iO U V (λe=>by have:=ac _ e;omega);clear G V;refine ⟨N,?_⟩;refine At rfl (eK ?_);refine eV [_] [_,_] U ?_;intro cr ct ay cu;clear U;have ax:=OwnQ.fr ax ay (λk Y=>⟨λh=>by (try dsimp only at Y h);omega,λe=>by have:=OwnQ.ge Af e;(try dsimp only at Y);omega⟩);revert hm X M;refine eF ay ?_;intro hm X M;refine Ak (Ah (Ai (Al (C1 V7 (C1 Mv (Ak ?_))))));exact Aw (j+1,some ⟨_,0,none⟩,_) sB ⟨by (try dsimp only);omega,by dsimp only;rw [<-ae];exact a6,by dsimp only;rw [<-ae];assumption,by dsimp only;rw [<-ae];assumption,Af,Af,Af,Ab⟩ (by (try dsimp only);omega)
   . obtain rfl:j=l.length:=by omega
     rw [gF] at *;refine kT ?_;have b3:E8 l=0:=by
      unfold E8;rw [AB af,AQ ao.out,AQ aq]
     refine ⟨_,_,rfl,b3.symm,X,gt ⟨rfl,O,λk=>k=ah,λk=>O<=k/\k<w3.heap.size,rfl,⟨ra,rc,ah,U,⟨gI _,ap⟩,G.exs (λb h=>⟨Ab,h.2⟩) (λb h1 h2=>⟨Ab,h2⟩),⟨λ_=>0,hm,rfl,λs M=>by simp [Bj] at M,λs M=>by simp [Bj] at M⟩,λk Y=>⟨λe=>by omega,Y.2⟩,λk e=>by omega⟩,λk Y=>?_⟩⟩;rcases Y with Y|Y
     . omega
     . omega
def CB (r:Int):Int:=if r<0 then 0 else if r%2=1 then r/2+1 else -(r/2)
def Bu (h:Int):List (Int×Int)->Int×Int
 | []=>(0,0)
 | p::l=>((Bu h l).1+p.1,(Bu h l).2+p.2*h)
def R6 (h:Int) (r:Int×Int) (k left:Int):Int:=max 0 (left-1-k*h-r.2)
def cQ (h:Int) (r:Int×Int) (k left:Int):Int:=min (h-1) (left-1-k-r.1)
def KV (h:Int) (r:Int×Int):Nat->Int->List (List Int×Int)
 | 0,left=>[([],left)]
 | k+1,left=>(it (cQ h r k left-R6 h r k left+1).toNat).flatMap λ(m:Nat)=>(KV h r k (left-1-R6 h r k left-m)).map λp=>(CB (R6 h r k left+m)::p.1,p.2)
def cU (h:Int) (r:Int×Int) (p:Int×Int) (left:Int):Int:=max p.1 ((left-r.2+h-1).tdiv h)
def dH (r:Int×Int) (p:Int×Int) (left:Int):Int:=min p.2 (left-r.1)
def Hr (h:Int):List (Int×Int)->Int->List (List (List Int))
 | [],_=>[[]]
 | p::l,left=>(it (dH (Bu h l) p left-cU h (Bu h l) p left+1).toNat).flatMap λ(m:Nat)=>
  (KV h (Bu h l) (cU h (Bu h l) p left+m).toNat left).flatMap λq=>(Hr h l q.2).map λs=>q.1::s
def Is (s:List (List Int)):SV:=⟨s.dropLast,s.getLastD [],[]⟩
def WH (h:Int) (l:List (Int×Int)):List (List (List Int)):=(it ((Bu h l).2-(Bu h l).1+1).toNat).flatMap λ(m:Nat)=>Hr h l ((Bu h l).1+m)
def MY (vs:List VD) (b:BoxV):List SV:=if b.ok/\CS vs then (WH (2*b.v+1) (CF vs b)).map Is else []
def Qw (h:Int) (r:Int×Int):∀(k:Nat) (left:Int),∀q∈KV h r k left,q.1.length=k
 | 0,_,q,G=>by
  simp only [KV,ia] at G;simp [G]
 | k+1,left,q,G=>by
  simp only [KV,List.mem_flatMap,List.mem_map] at G;obtain ⟨m,-,p,M,rfl⟩:=G;simp [Qw h r k _ p M]
def Qx:List (Int×Int)->List (List Int)->Prop
 | [],s=>s=[]
 | p::l,s=> ∃x r,s=x::r/\p.1<=x.length/\(x.length:Int)<=p.2/\Qx l r
def NE (h:Int):∀(l:List (Int×Int)) (left:Int),(∀p∈l,0<=p.1) -> ∀s∈Hr h l left,Qx l s
 | [],_,_,s,G=>by
  simp only [Hr,ia] at G;exact G
 | p::l,left,M,s,G=>by
  simp only [Hr,List.mem_flatMap,List.mem_map,List.mem_range] at G;obtain ⟨m,V,q,N,r,O,rfl⟩:=G;have X:=Qw _ _ _ _ q N;have Y:=M p List.mem_cons_self;have Z:p.1<=cU h (Bu h l) p left:=by unfold cU;omega
  have h4:dH (Bu h l) p left<=p.2:=by unfold dH;omega
  exact ⟨q.1,r,rfl,Ab,Ab,NE h l q.2 (λx U=>M x (by simp [U])) r O⟩
def NF:∀ {l:List (Int×Int)} {s:List (List Int)},Qx l s->s.length=l.length
 | [],s,h=>by
  have:s=[]:=h;simp [this]
 | p::l,s,⟨x,r,h,_,_,G⟩=>by rw [h];simp [NF G]
def Ke:∀ {l:List (Int×Int)} {s:List (List Int)},Qx l s -> ∀(i:Nat) (p:Int×Int) (x:List Int),l[i]? = some p->s[i]? = some x->p.1<=x.length/\(x.length:Int)<=p.2
 | [],_,_,i,p,x,N,_=>by simp at N
 | p::l,s,⟨y,r,h,O,U,V⟩,i,q,x,M,G=>by
  rw [h] at G;cases i with
  | zero=>
   simp only [gX,gy] at M G;subst M G;exact ⟨O,U⟩
  | succ i=>
   simp only [List.getElem?_cons_succ] at M G;exact Ke V i q x M G
def WI {h:Int} {l:List (Int×Int)} (M:∀p∈l,0<=p.1):∀s∈WH h l,Qx l s:=by
 intro s G;unfold WH at G;rw [List.mem_flatMap] at G;obtain ⟨m,-,G⟩:=G;exact NE h l _ M s G
def US {vs:List VD} {b:BoxV}:∀s∈MY vs b,FitsP vs s:=by
 intro s G;unfold MY at G;split at G
 . rename_i M;obtain ⟨U,M⟩:=M;rw [List.mem_map] at G;obtain ⟨t,ht,rfl⟩:=G;have V:=WI (λp hp=>(Oj U M p hp).1) t ht;have X:=NF V;rw [JW] at X;have hL:(Is t).cells=t.take vs.length:=by
    unfold Is;simp only;rw [List.dropLast_eq_take,X];rfl
   refine ⟨M,?_,?_,gC _,λi v x Y hx=>?_⟩
   . rw [hL,ij];omega
   . have h4:t[vs.length]? = some (t.getLastD []):=by
      rw [List.getLastD_eq_getLast?,List.getLast?_eq_getElem?,X];simp only [Nat.add_sub_cancel];rw [gm Ab];rfl
     have h:=Ke V vs.length (0,b.i) _ (by simp [CF]) h4;obtain ⟨-,-,-,O⟩:=U;show (t.getLastD []).length<=4096;simp only at h;omega
   . have N:=(List.getElem?_eq_some_iff.1 Y).1;rw [hL,List.getElem?_take_of_lt N] at hx;have h:=Ke V i (Jk b v) x (by simp [CF,gJ,N,gV,(List.getElem?_eq_some_iff.1 Y).2]) hx;have O:=Wb U (M.2 v (io Y));unfold MV;unfold Jk at h O;split
     . rename_i Z;rw [AQ Z] at h O;simp only at h O;omega
     . rename_i Z;rw [AB Z] at h;simp only at h;omega
 . simp at G
inductive Rl where
 | none|cell (i:Nat)|items (i:Nat)|vars (j:Nat)|cels (j:Nat)|calls|store|tape|tin|tout|other (k:Nat)
 deriving DecidableEq
def Ro (ρ ρ':Nat->Rl) (w:wD):Prop:= ∀b,b<w.heap.size->ρ' b=ρ b
def Ro.refl (ρ:Nat->Rl) (w:wD):Ro ρ ρ w:=λ_ _=>rfl
def Ro.trans {ρ ρ' G:Nat->Rl} {w w':wD} (h:Ro ρ ρ' w) (M:Ro ρ' G w') (O:w.heap.size<=w'.heap.size):Ro ρ G w:=λb N=>(M b Ab).trans (h b N)
def OwnR (ρ:Nat->Rl) (r:Rl) (w:wD) (v:Value) (xs:List Int):Prop:=OwnI w 0 v xs /\ ∀k,v.ownBlock=some k->ρ k=r
def OwnR.ext {ρ:Nat->Rl} {r:Rl} {w w':wD} {v:Value} {xs:List Int} (h:OwnR ρ r w v xs) (x:Ext w w'):OwnR ρ r w' v xs:=⟨h.1.ext x,h.2⟩
instance {ρ:Nat->Rl} {r:Rl}:LfE w w' (OwnR ρ r w v xs) (OwnR ρ r w' v xs):=⟨λx h=>Bk.OwnR.ext h x⟩
def OwnR.fr {ρ:Nat->Rl} {r:Rl} {S:nP} {w w':wD} {v:Value} {xs:List Int} (h:OwnR ρ r w v xs) (x:Fr S w w') (G:∀k,S k->ρ k≠r):OwnR ρ r w' v xs:=
 ⟨h.1.fr x (λk M N=>G k N (h.2 k M)),h.2⟩
instance {ρ:Nat->Rl} {r:Rl} {S:nP}:LfF S w w' (OwnR ρ r w v xs) (∀k,S k->ρ k≠r) (OwnR ρ r w' v xs):=⟨λx s h=>Bk.OwnR.fr h x s⟩
def OwnR.ro {ρ ρ':Nat->Rl} {r:Rl} (h:OwnR ρ r w v xs) (x:Ro ρ ρ' w') (M:w.heap.size<=w'.heap.size):OwnR ρ' r w v xs:=
 ⟨h.1,λk G=>by have:=(h.1.lt G).2;rw [x k Ab];exact h.2 k G⟩
def OwnR.ro' {ρ ρ':Nat->Rl} {r:Rl} (h:OwnR ρ r w' v xs) (x:Ro ρ ρ' w) (M:∀k,v.ownBlock=some k->k<w.heap.size):OwnR ρ' r w' v xs:=
 ⟨h.1,λk G=>by rw [x k (M k G)];exact h.2 k G⟩
structure TapeAt (ρ:Nat->Rl) (w:wD) (tb:Nat) (ti to:List Int):Prop where
 role:ρ tb = .tape
 blk:∃vi vo,Blk w tb [vi,vo]/\OwnR ρ .tin w vi ti/\OwnR ρ .tout w vo to
 li:ti.length<=4096
 lo:to.length<=4096
def TapeAt.ext {ρ:Nat->Rl} {w w':wD} {tb:Nat} {ti to:List Int} (h:TapeAt ρ w tb ti to) (x:Ext w w'):TapeAt ρ w' tb ti to:=by
 obtain ⟨G,M,N,O,U⟩:=h.blk;exact ⟨h.role,⟨G,M,N.ext x,O.ext x,U.ext x⟩,h.li,h.lo⟩
instance {ρ:Nat->Rl} {tb:Nat} {ti to:List Int}:LfE w w' (TapeAt ρ w tb ti to) (TapeAt ρ w' tb ti to):=⟨λx h=>Bk.TapeAt.ext h x⟩
def TapeAt.ro {ρ ρ':Nat->Rl} {w w0:wD} {tb:Nat} {ti to:List Int} (h:TapeAt ρ w tb ti to) (x:Ro ρ ρ' w0) (G:w.heap.size<=w0.heap.size):TapeAt ρ' w tb ti to:=by
 obtain ⟨N,O,M,U,V⟩:=h.blk;exact ⟨by rw [x tb (by have:=M.lt;omega)];exact h.role,⟨N,O,M,U.ro x G,V.ro x G⟩,h.li,h.lo⟩
def BR (ρ:Nat->Rl) (b:Nat):Prop:=ρ b = .tape\/ρ b = .tin\/ρ b = .tout
def IE (ρ:Nat->Rl) (w:wD) (r:Rl):Nat->Rl:=λb=>if b<w.heap.size then ρ b else r
def Df (ρ:Nat->Rl) (w:wD) (r:Rl):Ro ρ (IE ρ w r) w:=λb h=>by unfold IE;rw [AQ h]
def UT (ρ:Nat->Rl) (w:wD) (r:Rl) {b:Nat} (h:w.heap.size<=b):IE ρ w r b=r:=by unfold IE;rw [AB Ab]
def PutR.own {ρ:Nat->Rl} {r:Rl} {G:Value} {N:wD} {ys:List Int} (h:OwnI N 0 G ys) (O:∀k,v.ownBlock=some k->ρ k=r/\k<w.heap.size) (U:∀k,G.ownBlock=some k->v.ownBlock=some k\/w.heap.size<=k):OwnR (IE ρ w r) r N G ys:=by
 refine ⟨h,λk V=>?_⟩;rcases U k V with M|M
 . obtain ⟨X,Y⟩:=O k M;unfold IE;rw [AQ Y];exact X
 . exact UT _ _ _ M
def TapeR (ρ:Nat->Rl) (tb:Nat) (ti to:List Int) (r:Value) (w:wD):Ending->wD->Prop:=λe w'=> ∃ ρ',e = .returned r/\Ro ρ ρ' w/\TapeAt ρ' w' tb ti to/\Fr (BR ρ) w w'
def TapeR.ret {ρ:Nat->Rl} {tb:Nat} {ti to:List Int} {r:Value} {e:Ending} (h:TapeR ρ tb ti to r w e w'):∃v,e = .returned v:=by
 obtain ⟨_,h,-⟩:=h;exact ⟨_,h⟩
def YU (ρ:Nat->Rl) (tb:Nat) (ti to:List Int) (i x:Int) (w:wD) (h:TapeAt ρ w tb ti to) (M:ti.length=4096) :
 Calls prog 243 #[.pointer (some ⟨tb,0,none⟩),.int .i64 i,.int .i64 x] w (TapeR ρ tb ti to (.int .i64 5) w):=by
 obtain ⟨N,O,U,G,V⟩:=h.blk;obtain ⟨a,c,rfl⟩:=G.1.shape;refine Ad func243 ntmps243 rfl rfl (kR ?_);exact ⟨ρ,rfl,Ro.refl _ _,Af,iP _ _⟩
def YV (ρ:Nat->Rl) (tb:Nat) (ti to:List Int) (i x:Int) (w:wD) (h:TapeAt ρ w tb ti to) (M:to.length=4096) :
 Calls prog 243 #[.pointer (some ⟨tb,0+1,none⟩),.int .i64 i,.int .i64 x] w (TapeR ρ tb ti to (.int .i64 5) w):=by
 obtain ⟨N,O,U,V,G⟩:=h.blk;obtain ⟨a,c,rfl⟩:=G.1.shape;refine Ad func243 ntmps243 rfl rfl (kR ?_);exact ⟨ρ,rfl,Ro.refl _ _,Af,iP _ _⟩
def YW (ρ:Nat->Rl) (tb:Nat) (ti to:List Int) (x:Int) (w:wD) (h:TapeAt ρ w tb ti to) (hf:ti.length<4096) :
 Calls prog 243 #[.pointer (some ⟨tb,0,none⟩),.int .i64 0,.int .i64 x] w (TapeR ρ tb (x::ti) to (.int .i64 0) w):=by
 obtain ⟨vi,vo,U,hi,N⟩:=h.blk;have M:=h.role;have af:=h.lo;have an:=h.li;have ag:=U.lt;have ah:=λk O=>(N.1.lt (k:=k) O).2
 obtain ⟨a,c,rfl⟩:=hi.1.shape;have G:=λk O=>And.intro (hi.2 k O) (hi.1.lt O).2
 obtain ⟨ab,ao⟩:=hi;have F:=iP (BR ρ) w;have V:∀(X:Nat) (w1:wD),OwnI w1 0 (.slice a ti.length c) ti->Blk w1 X [.int .i64 x]->w.heap.size<=X->Calls prog 247 #[.slice a ti.length c,.int .i64 0,.slice (some ⟨X,0,none⟩) 1 1] w1 (PutR (.slice a ti.length c) (x::ti) 0 w1):=λX w1 h1 h2 h3=>by
  by_cases ac:ti=[]
  . subst ac;have:=LG [] AN 0 _ x X w1 (gC _) h1 h2.row;simpa using this
  . exact RG ti Ab ac 0 _ x X w1 (gC _) h1 h2 (λe=>by have:=G X e;omega)
 have V:=gp V;have ad:¬(gN a ti.length c).ownBlock=some tb:=λe=>by have:=(G _ e).1;rw [M] at this;cases this
 have ai:∀k,(gN a ti.length c).ownBlock=some k->ρ k≠.tout:=λk e=>by have:=(G _ e).1;rw [this];exact λh=>by cases h
 have aj:∀k,(gN a ti.length c).ownBlock=some k->BR ρ k\/w.heap.size<=k:=λk e=>gq (gt (gq (G k e).1))
 have ak:∀k,k=tb->BR ρ k\/w.heap.size<=k:=λk e=>gq (gq (by rw [e];exact M))
 have al:∀k,k=tb->ρ k≠.tout:=λk e=>by rw [e,M];exact λh=>by cases h
 clear h;refine Ad func243 ntmps243 rfl rfl (eK ?_);refine Ax (xS [_]) rfl ?_ aFh;rintro _ w2 ⟨b1,rfl,n3,t4⟩;have h5:=n3.blk;have x6:=n3.ext;have p7:=n3.pos;have z8:=n3.size;revert N U ab F;refine eE x6 ?_;intro N U ab F;refine eQ rfl (V.out _ _ Af Af Ab) ?_;rintro _ ap ⟨a9,aq,⟨⟩,Y,ae,Z⟩;have N:=OwnR.fr N Z (ai);have U:=iO U Z (ad);have F:=iU F Z (aj);refine C1 Pn (eV [_] [_,_] U ?_);intro ar am aa _;clear U;have Y:=OwnI.fr Y aa (λk O e=>by subst e;rcases ae _ O with h|h;exact ad h;omega);have N:=OwnR.fr N aa (al);have F:=iU F aa (ak);refine kR ?_;exact ⟨IE ρ w .tin,rfl,Df _ _ _,⟨by rw [Df ρ w .tin tb ag];exact M,⟨_,_,am,PutR.own Y G (λk O=>(ae k O).imp id (λh=>by omega)),N.ro' (Df _ _ _) ah⟩,by simp;omega,af⟩,F⟩
def YX (ρ:Nat->Rl) (tb:Nat) (ti to:List Int) (x:Int) (w:wD) (h:TapeAt ρ w tb ti to) (hf:to.length<4096) :
 Calls prog 243 #[.pointer (some ⟨tb,0+1,none⟩),.int .i64 to.length,.int .i64 x] w (TapeR ρ tb ti (to++[x]) (.int .i64 0) w):=by
 obtain ⟨vi,vo,U,N,ho⟩:=h.blk;have G:=h.role;have ac:=h.li;have ad:=U.lt;have ae:=λk O=>(N.1.lt (k:=k) O).2
 obtain ⟨a,c,rfl⟩:=ho.1.shape;have M:=λk O=>And.intro (ho.2 k O) (ho.1.lt O).2
 obtain ⟨Z,ak⟩:=ho;have F:=iP (BR ρ) w;have aa:¬(gN a to.length c).ownBlock=some tb:=λe=>by have:=(M _ e).1;rw [G] at this;cases this
 have af:∀k,(gN a to.length c).ownBlock=some k->ρ k≠.tin:=λk e=>by have:=(M _ e).1;rw [this];exact λh=>by cases h
 have ag:∀k,(gN a to.length c).ownBlock=some k->BR ρ k\/w.heap.size<=k:=λk e=>gq (gt (gt (M k e).1))
 have ah:∀k,k=tb->BR ρ k\/w.heap.size<=k:=λk e=>gq (gq (by rw [e];exact G))
 have ai:∀k,k=tb->ρ k≠.tin:=λk e=>by rw [e,G];exact λh=>by cases h
 clear h;refine Ad func243 ntmps243 rfl rfl (eK ?_);refine Ax (xS [_]) rfl ?_ aFh;rintro _ w2 ⟨b1,rfl,n3,t4⟩;have h5:=n3.blk;have x6:=n3.ext;have p7:=n3.pos;have z8:=n3.size;revert N U Z F;refine eE x6 ?_;intro N U Z F;refine eQ rfl (LG to Ab 0 _ x _ _ (gC _) Af (i7 Af)) ?_;rintro _ al ⟨a9,am,⟨⟩,V,ab,X⟩;have N:=OwnR.fr N X (af);have U:=iO U X (aa);have F:=iU F X (ag);refine C1 Pn (eV [_] [_,_] U ?_);intro an aj Y _;clear U;have V:=OwnI.fr V Y (λk O e=>by subst e;rcases ab _ O with h|h;exact aa h;omega);have N:=OwnR.fr N Y (ai);have F:=iU F Y (ah);refine kR ?_;exact ⟨IE ρ w .tout,rfl,Df _ _ _,⟨by rw [Df ρ w .tout tb ad];exact G,⟨_,_,aj,N.ro' (Df _ _ _) ae,PutR.own V M (λk O=>(ab k O).imp id (λh=>by omega))⟩,ac,by simp;omega⟩,F⟩
def YY (ρ:Nat->Rl) (tb:Nat) (to:List Int) (i:Int) (w:wD) (h:TapeAt ρ w tb [] to) :
 Calls prog 242 #[.pointer (some ⟨tb,0,none⟩),.int .i64 i] w (TapeR ρ tb [] to (.tuple #[.int .i64 0,.int .i64 17]) w):=by
 obtain ⟨M,N,O,G,U⟩:=h.blk;obtain ⟨a,c,rfl⟩:=G.1.shape;refine Ad func242 ntmps242 rfl rfl (kT ?_);exact ⟨ρ,rfl,Ro.refl _ _,Af,iP _ _⟩
def YZ (ρ:Nat->Rl) (tb:Nat) (ti:List Int) (i:Int) (w:wD) (h:TapeAt ρ w tb ti []) :
 Calls prog 242 #[.pointer (some ⟨tb,0+1,none⟩),.int .i64 i] w (TapeR ρ tb ti [] (.tuple #[.int .i64 0,.int .i64 17]) w):=by
 obtain ⟨M,N,O,U,G⟩:=h.blk;obtain ⟨a,c,rfl⟩:=G.1.shape;refine Ad func242 ntmps242 rfl rfl (kT ?_);exact ⟨ρ,rfl,Ro.refl _ _,Af,iP _ _⟩
def Y0 (ρ:Nat->Rl) (tb:Nat) (x:Int) (ti to:List Int) (w:World) (h:TapeAt ρ w tb (x::ti) to) :
 Calls prog 242 #[.pointer (some ⟨tb,0,none⟩),.int .i64 0] w (TapeR ρ tb ti to (.tuple #[.int .i64 x,.int .i64 0]) w):=by
 obtain ⟨vi,vo,O,hi,X⟩:=h.blk;have G:=h.role;have aa:=h.lo;have ai:=h.li;have ab:=O.lt
 have ac:=λk U=>(X.1.lt (k:=k) U).2
 obtain ⟨a,c,rfl⟩:=hi.1.shape
 have M:=λk U=>And.intro (hi.2 k U) (hi.1.lt U).2
 obtain ⟨Y,aj⟩:=hi;have F:=iP (BR ρ) w
 have Z:¬(gN a (x::ti).length c).ownBlock=some tb:=λe=>by have:=(M _ e).1;rw [G] at this;cases this
 have ad:∀k,(gN a (x::ti).length c).ownBlock=some k->ρ k≠.tout:=λk e=>by have:=(M _ e).1;rw [this];exact λh=>by cases h
 have ae:∀k,(gN a (x::ti).length c).ownBlock=some k->BR ρ k\/w.heap.size<=k:=λk e=>gq (gt (gq (M k e).1))
 have af:∀k,k=tb->BR ρ k\/w.heap.size<=k:=λk e=>gq (gq (by rw [e];exact G))
 have ag:∀k,k=tb->ρ k≠.tout:=λk e=>by rw [e,G];exact λh=>by cases h
 have V:∀(w1:World),OwnI w1 0 (.slice a (x::ti).length c) (x::ti)->Calls prog 246 #[.slice a (x::ti).length c,.int .i64 0,.int .i64 (0+1)] w1 (PutR (.slice a (x::ti).length c) ti 0 w1):=λw1 h1=>by
  have:=Nq (x::ti) Ab 0 AN 0 _ w1 h1
  simpa using this
 replace V:=gp V
 have ak:(x::ti).length=ti.length+1:=by simp
 obtain ⟨gb,go,rfl,hr⟩:=Y.at.get AN;have r1:=IntsAt.at hr (i:=0) AN;rw [show (x::ti).getD 0 0=x from rfl] at r1;clear h hr;refine Ad func242 ntmps242 rfl rfl ?_
 refine cS (C1 Pa (C1 Pa (cT (Aj (cS (C1 Mv (C1 Pn (C1 (Pl O) (C1 Pz (C1 V1 (cT (C6 (Ao (Ai (cS (C1 Mv (C1 Pn (C1 (Pl O) (C1 Mv (C1 Pi (C1 (Pw r1) (C1 Pa (cN (C1 Mv (C1 Mv (C1 Pn (C1 (Pl O) (C1 Mv (C1 Mv (C1 V7 (eQ rfl (V.out _ Af) ?_)))))))))))))))))))))))))))))));rintro _ w6 ⟨a1,c2,⟨⟩,h3,h4,f5⟩;replace X:=OwnR.fr X f5 (ad);replace F:=iU F f5 (ae);replace O:=iO O f5 (Z);clear Y r1 f5;refine C1 Pn (eV [_] [_,_] O ?_);intro w8 ah N _;clear O;replace h3:=OwnI.fr h3 N (λk U e=>by subst e;rcases h4 _ U with h|h;exact Z h;omega);replace X:=OwnR.fr X N (ag);replace F:=iU F N (af);clear N;refine cN (C1 Mv (C1 Pa (C1 Pa (cT (AM (Ba rfl rfl rfl ?_))))))
 exact ⟨IE ρ w .tin,rfl,Df _ _ _,⟨by rw [Df ρ w .tin tb ab];exact G,⟨_,_,ah,PutR.own h3 M (λk U=>(h4 k U).imp id (λh=>by omega)),X.ro' (Df _ _ _) ac⟩,Ab,aa⟩,F⟩
def Y1 (ρ:Nat->Rl) (tb:Nat) (x:Int) (ti ys:List Int) (w:wD) (h:TapeAt ρ w tb ti (ys++[x])) :
 Calls prog 242 #[.pointer (some ⟨tb,0+1,none⟩),.int .i64 (((ys++[x]).length:Int)-1)] w (TapeR ρ tb ti ys (.tuple #[.int .i64 x,.int .i64 0]) w):=by
 obtain ⟨vi,vo,X,V,ho⟩:=h.blk;have G:=h.role;have aj:=h.lo;have aa:=h.li;have ab:=X.lt;have ac:=λk N=>(V.1.lt (k:=k) N).2
 obtain ⟨a,c,rfl⟩:=ho.1.shape;have M:=λk N=>And.intro (ho.2 k N) (ho.1.lt N).2
 obtain ⟨ad,ak⟩:=ho;have F:=iP (BR ρ) w;have Y:¬(gN a (ys++[x]).length c).ownBlock=some tb:=λe=>by have:=(M _ e).1;rw [G] at this;cases this
 have ae:∀k,(gN a (ys++[x]).length c).ownBlock=some k->ρ k≠.tin:=λk e=>by have:=(M _ e).1;rw [this];exact λh=>by cases h
 have af:∀k,(gN a (ys++[x]).length c).ownBlock=some k->BR ρ k\/w.heap.size<=k:=λk e=>gq (gt (gt (M k e).1))
 have ag:∀k,k=tb->BR ρ k\/w.heap.size<=k:=λk e=>gq (gq (by rw [e];exact G))
 have ah:∀k,k=tb->ρ k≠.tin:=λk e=>by rw [e,G];exact λh=>by cases h
 have Z:(ys++[x]).length=ys.length+1:=by simp
 have O:∀(w1:wD),OwnI w1 0 (.slice a (ys++[x]).length c) (ys++[x])->Calls prog 246 #[.slice a (ys++[x]).length c,.int .i64 (((ys++[x]).length:Int)-1),.int .i64 (((ys++[x]).length:Int)-1+1)] w1 (PutR (.slice a (ys++[x]).length c) ys 0 w1):=λw1 h1=>by
  have h9:=Nq (ys++[x]) Ab ys.length Ab 0 _ w1 h1;rw [show (ys++[x]).eraseIdx ys.length=ys by rw [List.eraseIdx_append_of_length_le (gI _)];simp] at h9;rw [Z] at h9 ⊢;rw [show (((ys.length+1:Nat):Int)-1)=(ys.length:Int) by omega];exact h9
 have O:=gp O;obtain ⟨gb,go,rfl,hr⟩:=ad.at.get AN;have r1:=IntsAt.at hr (i:=(((ys++[x]).length:Int)-1).toNat) Ab;rw [show (ys++[x]).getD (((ys++[x]).length:Int)-1).toNat 0=x by rw [Z,show (((ys.length+1:Nat):Int)-1).toNat=ys.length by omega];simp] at r1;clear h hr;generalize al:(ys++[x]).length=LL at *;refine Ad func242 ntmps242 rfl rfl (kQ (O.out _ Af) ?_);rintro _ w6 ⟨a1,c2,⟨⟩,h3,h4,f5⟩;have V:=OwnR.fr V f5 (ae);have F:=iU F f5 (af);have X:=iO X f5 (Y);refine C1 Pn (eV [_] [_,_] X ?_);intro w8 ai U _;clear X;have h3:=OwnI.fr h3 U (λk N e=>by subst e;rcases h4 _ N with h|h;exact Y h;omega);have V:=OwnR.fr V U (ah);have F:=iU F U (ag);refine kT ?_;exact ⟨IE ρ w .tout,rfl,Df _ _ _,⟨by rw [Df ρ w .tout tb ab];exact G,⟨_,_,ai,V.ro' (Df _ _ _) ac,PutR.own h3 M (λk N=>(h4 k N).imp id (λh=>by omega))⟩,aa,Ab⟩,F⟩
def JD {P:Program} {n:Nat} {l:Sl} {op:Op} (h:Bh P n l (· = w) op ty v):BD P n l op ty w (λr w'=>match r with|some u=>u=v/\w=w'|none=>False):=by
 unfold BD;unfold Bh at h;intro a dst pos after g next Q ha k k0;unfold iB;rw [h a w dst pos after g ha rfl];exact k v w ⟨rfl,rfl⟩
def Ro.low {ρ ρ':Nat->Rl} (h:Ro ρ ρ' w') (G:w.heap.size<=w'.heap.size):Ro ρ ρ' w:=λb M=>h b Ab
def WJ (ρ:Nat->Rl) (tb:Nat) (to:List Int) (w:wD) (h:TapeAt ρ w tb [] to):Calls prog 235 #[.pointer (some ⟨tb,0,none⟩)] w (TapeR ρ tb [] to (.tuple #[.int .i64 0,.int .i64 17]) w):=by
 have F:=iP (BR ρ) w;have G:=gp (λw1 h=>YY ρ tb to 0 w1 h);refine Ad func235 ntmps235 rfl rfl (eK ?_);refine C1 (A0 Ac rfl rfl) (kQ (G.out _ Af) ?_);rintro _ U ⟨M,⟨⟩,V,X,N⟩;clear h;have F:=iU F N (λk O=>gq O);refine kT ?_;exact ⟨_,rfl,Ro.low Af Ab,Af,F⟩
def Y2 (ρ:Nat->Rl) (tb:Nat) (x:Int) (ti to:List Int) (w:wD) (h:TapeAt ρ w tb (x::ti) to):Calls prog 235 #[.pointer (some ⟨tb,0,none⟩)] w (TapeR ρ tb ti to (.tuple #[.int .i64 x,.int .i64 0]) w):=by
 have F:=iP (BR ρ) w;have G:=gp (λw1 h=>Y0 ρ tb x ti to w1 h);refine Ad func235 ntmps235 rfl rfl (eK ?_);refine C1 (A0 Ac rfl rfl) (kQ (G.out _ Af) ?_);rintro _ U ⟨M,⟨⟩,V,X,N⟩;clear h;have F:=iU F N (λk O=>gq O);refine kT ?_;exact ⟨_,rfl,Ro.low Af Ab,Af,F⟩
def R7 (ρ:Nat->Rl) (tb:Nat) (x:Int) (ti to:List Int) (w:wD) (h:TapeAt ρ w tb ti to) (G:ti.length=4096):Calls prog 236 #[.pointer (some ⟨tb,0,none⟩),.int .i64 x] w (TapeR ρ tb ti to (.int .i64 5) w):=by
 have F:=iP (BR ρ) w;have M:=gp (λw1 h=>YU ρ tb ti to 0 x w1 h G);refine Ad func236 ntmps236 rfl rfl (eK ?_);refine C1 (A0 Ac rfl rfl) (kQ (M.out _ Af) ?_);rintro _ V ⟨N,⟨⟩,X,Y,O⟩;clear h;have F:=iU F O (λk U=>gq U);refine kR ?_;exact ⟨_,rfl,Ro.low Af Ab,Af,F⟩
def NG (ρ:Nat->Rl) (tb:Nat) (x:Int) (ti to:List Int) (w:wD) (h:TapeAt ρ w tb ti to) (G:ti.length<4096):Calls prog 236 #[.pointer (some ⟨tb,0,none⟩),.int .i64 x] w (TapeR ρ tb (x::ti) to (.int .i64 0) w):=by
 have F:=iP (BR ρ) w;have M:=gp (λw1 h=>YW ρ tb ti to x w1 h G);refine Ad func236 ntmps236 rfl rfl (eK ?_);refine C1 (A0 Ac rfl rfl) (kQ (M.out _ Af) ?_);rintro _ V ⟨N,⟨⟩,X,Y,O⟩;clear h;have F:=iU F O (λk U=>gq U);refine kR ?_;exact ⟨_,rfl,Ro.low Af Ab,Af,F⟩
def Qz (ρ:Nat->Rl) (tb:Nat) (ti:List Int) (w:wD) (h:TapeAt ρ w tb ti []):Calls prog 237 #[.pointer (some ⟨tb,0,none⟩)] w (TapeR ρ tb ti [] (.tuple #[.int .i64 0,.int .i64 17]) w):=by
 have F:=iP (BR ρ) w;have O:=gp (λw1 h=>YZ ρ tb ti ((([]:List Int).length:Int)-1) w1 h);have U:=h.lo;obtain ⟨vi,vo,M,V,N⟩:=h.blk;obtain ⟨a,c,rfl⟩:=N.1.shape;clear V N;refine Ad func237 ntmps237 rfl rfl (eK ?_);refine C1 (A0 Ac rfl rfl) (eK ?_);refine Aq (λ_=>True) 12 (.pure 0 (.pure 1 (.pure 2 (.pure 3 (.pure 4 (.pure 5 (.fork 6 (.pure 7 (.pure 8 (.fork 9 (.pure 10 (.pure 11 .tail)) .none))) .none))))))) mixed AT (Aa Ag) ?_;intro w1 X _;revert h F M;refine eY X ?_;intro z4 h F M;refine ⟨trivial,?_⟩;refine eT ?_;refine AE rfl (JD (Ap Ac rfl rfl rfl (λwz Y=>by subst Y;exact iV M rfl))) rfl ?_ aFh AD;rintro _ _ ⟨rfl,rfl⟩;refine ⟨trivial,?_⟩;refine Tq rfl Pz (Tq rfl (AK rfl rfl (gz _ Ab)) (AE rfl (AR AT rfl (O.out _ Af) (λ_ _ h=>h.ret)) rfl ?_ aFh AD));rintro _ Z ⟨aa,⟨⟩,h8,h9,G⟩;clear h;replace F:=iU F G (λk hk=>gq hk);clear M G;refine ⟨trivial,?_⟩;refine Tq rfl Px (Tq rfl Px (At rfl (eK ?_)));refine Ba rfl rfl rfl ?_;exact ⟨_,rfl,Ro.low Af Ab,Af,F⟩
def R8 (ρ:Nat->Rl) (tb:Nat) (x:Int) (ti ys:List Int) (w:wD) (h:TapeAt ρ w tb ti (ys++[x])):Calls prog 237 #[.pointer (some ⟨tb,0,none⟩)] w (TapeR ρ tb ti ys (.tuple #[.int .i64 x,.int .i64 0]) w):=by
 have F:=iP (BR ρ) w;have O:=gp (λw1 h=>Y1 ρ tb x ti ys w1 h);have U:=h.lo;obtain ⟨vi,vo,M,V,N⟩:=h.blk;obtain ⟨a,c,rfl⟩:=N.1.shape;clear V N;refine Ad func237 ntmps237 rfl rfl (eK ?_);refine C1 (A0 Ac rfl rfl) (eK ?_);refine Aq (λ_=>True) 12 (.pure 0 (.pure 1 (.pure 2 (.pure 3 (.pure 4 (.pure 5 (.fork 6 (.pure 7 (.pure 8 (.fork 9 (.pure 10 (.pure 11 .tail)) .none))) .none))))))) mixed AT (Aa Ag) ?_;intro w1 X _;revert h F M;refine eY X ?_;intro z4 h F M;refine ⟨trivial,?_⟩;refine eT ?_;refine AE rfl (JD (Ap Ac rfl rfl rfl (λwz Y=>by subst Y;exact iV M rfl))) rfl ?_ aFh AD;rintro _ _ ⟨rfl,rfl⟩;refine ⟨trivial,?_⟩;refine Tq rfl Pz (Tq rfl (AK rfl rfl (gz _ Ab)) (AE rfl (AR AT rfl (O.out _ Af) (λ_ _ h=>h.ret)) rfl ?_ aFh AD));rintro _ Z ⟨aa,⟨⟩,h8,h9,G⟩;clear h;replace F:=iU F G (λk hk=>gq hk);clear M G;refine ⟨trivial,?_⟩;refine Tq rfl Px (Tq rfl Px (At rfl (eK ?_)));refine Ba rfl rfl rfl ?_;exact ⟨_,rfl,Ro.low Af Ab,Af,F⟩
def UU (ρ:Nat->Rl) (tb:Nat) (x:Int) (ti to:List Int) (w:wD) (h:TapeAt ρ w tb ti to) (O:to.length=4096):Calls prog 238 #[.pointer (some ⟨tb,0,none⟩),.int .i64 x] w (TapeR ρ tb ti to (.int .i64 5) w):=by
 have F:=iP (BR ρ) w;have U:=gp (λw1 h=>YV ρ tb ti to to.length x w1 h O);obtain ⟨vi,vo,G,V,M⟩:=h.blk;obtain ⟨a,c,rfl⟩:=M.1.shape;clear V M;refine Ad func238 ntmps238 rfl rfl (eK ?_);refine C1 (A0 Ac rfl rfl) (eK ?_);refine Aq (λ_=>True) 9 (.pure 0 (.pure 1 (.pure 2 (.pure 3 (.pure 4 (.pure 5 (.pure 8 (.fork 6 (.pure 7 .tail) .none)))))))) mixed AT (Aa Ag) ?_;intro w1 X _;revert h F G;refine eY X ?_;intro z4 h F G;refine ⟨trivial,?_⟩;refine eT ?_;refine AE rfl (JD (Ap Ac rfl rfl rfl (λwz Y=>by subst Y;exact iV G rfl))) rfl ?_ aFh AD;rintro _ _ ⟨rfl,rfl⟩;refine ⟨trivial,?_⟩;refine Tq rfl Pz (At rfl (eQ rfl (U.out _ Af) ?_));rintro _ Z ⟨aa,⟨⟩,h7,h8,N⟩;clear h;replace F:=iU F N (λk hk=>gq hk);clear G N;refine eK ?_;refine AP rfl rfl ?_;exact ⟨_,rfl,Ro.low Af Ab,Af,F⟩
def QA (ρ:Nat->Rl) (tb:Nat) (x:Int) (ti to:List Int) (w:wD) (h:TapeAt ρ w tb ti to) (O:to.length<4096):Calls prog 238 #[.pointer (some ⟨tb,0,none⟩),.int .i64 x] w (TapeR ρ tb ti (to++[x]) (.int .i64 0) w):=by
 have F:=iP (BR ρ) w;have U:=gp (λw1 h=>YX ρ tb ti to x w1 h O);obtain ⟨vi,vo,G,V,M⟩:=h.blk;obtain ⟨a,c,rfl⟩:=M.1.shape;clear V M;refine Ad func238 ntmps238 rfl rfl (eK ?_);refine C1 (A0 Ac rfl rfl) (eK ?_);refine Aq (λ_=>True) 9 (.pure 0 (.pure 1 (.pure 2 (.pure 3 (.pure 4 (.pure 5 (.pure 8 (.fork 6 (.pure 7 .tail) .none)))))))) mixed AT (Aa Ag) ?_;intro w1 X _;revert h F G;refine eY X ?_;intro z4 h F G;refine ⟨trivial,?_⟩;refine eT ?_;refine AE rfl (JD (Ap Ac rfl rfl rfl (λwz Y=>by subst Y;exact iV G rfl))) rfl ?_ aFh AD;rintro _ _ ⟨rfl,rfl⟩;refine ⟨trivial,?_⟩;refine Tq rfl Pz (At rfl (eQ rfl (U.out _ Af) ?_));rintro _ Z ⟨aa,⟨⟩,h7,h8,N⟩;clear h;replace F:=iU F N (λk hk=>gq hk);clear G N;refine eK ?_;refine AP rfl rfl ?_;exact ⟨_,rfl,Ro.low Af Ab,Af,F⟩
def dI (ρ:Nat->Rl) (tb:Nat) (ti to:List Int) (w:wD) (h:TapeAt ρ w tb ti to):Calls prog 163 #[.pointer (some ⟨tb,0,none⟩)] w (CloneR ti w):=by
 have X:=iK w;have M:=h.li;obtain ⟨V,Y,Z,G,N⟩:=h.blk;obtain ⟨a,c,rfl⟩:=G.1.shape;have O:=G.1.at;clear h G N;refine Ad func163 ntmps163 rfl rfl (eK ?_);refine C1 (A0 Ac rfl rfl) (kQ (Fo ti Ab _ _ _ Af) ?_);rintro _ w6 ⟨a1,c2,⟨⟩,h3,h4,U⟩;have X:=X.ext U;refine kR ?_;exact ⟨_,_,rfl,Af,Af,X⟩
def aN (ρ:Nat->Rl) (tb:Nat) (ti to:List Int) (w:wD) (h:TapeAt ρ w tb ti to):Calls prog 164 #[.pointer (some ⟨tb,0,none⟩)] w (CloneR to w):=by
 have X:=iK w;have M:=h.lo;obtain ⟨V,Y,Z,N,G⟩:=h.blk;obtain ⟨a,c,rfl⟩:=G.1.shape;have O:=G.1.at;clear h N G;refine Ad func164 ntmps164 rfl rfl (eK ?_);refine C1 (A0 Ac rfl rfl) (kQ (Fo to Ab _ _ _ Af) ?_);rintro _ w6 ⟨a1,c2,⟨⟩,h3,h4,U⟩;have X:=X.ext U;refine kR ?_;exact ⟨_,_,rfl,Af,Af,X⟩
def TNewR (ρ:Nat->Rl) (ti to:List Int) (w:wD):Ending->wD->Prop:=λe w'=> ∃tb ρ',e = .returned (.tuple #[.pointer (some ⟨tb,0,none⟩),.int .i64 0])/\Ro ρ ρ' w/\w.heap.size<=tb/\TapeAt ρ' w' tb ti to/\Ext w w'
def TNewR.ret {ρ:Nat->Rl} {ti to:List Int} {e:Ending} (h:TNewR ρ ti to w e w'):∃v,e = .returned v:=by
 obtain ⟨_,_,h,-⟩:=h;exact ⟨_,h⟩
def aO (ρ:Nat->Rl) (ti to:List Int) (hi:ti.length<=4096) (ho:to.length<=4096) (a b:oA) (c d:Nat) (w:wD) (h:IntsAt w ti a) (h':IntsAt w to b):Calls prog 157 #[.slice a ti.length c,.slice b to.length d] w (TNewR ρ ti to w):=by
 have X:=iK w;refine Ad func157 ntmps157 rfl rfl (kQ (Fo ti Ab _ _ _ h) ?_);rintro _ w6 ⟨a1,c2,⟨⟩,M,h4,x5⟩;revert h' X;refine eY x5 ?_;intro z7 h' X;refine C1 Mv (eQ rfl (Fo to Ab _ _ _ Af) ?_);rintro _ N ⟨a8,c9,⟨⟩,G,O,U⟩;revert M X;refine eY U ?_;intro aa M X;refine C1 (xB [_,_]) (eB [_,_] ?_);intro ab ac V Y ad ae;revert G M X;refine eE Y ?_;intro G M X;refine kT ?_;refine ⟨_,λb=>if b<w.heap.size then ρ b else if b<w6.heap.size then .tin else if b<N.heap.size then .tout else .tape,rfl,λb hb=>AQ hb,Ab,⟨?_,⟨_,_,V,⟨M.low (λ_ _=>gC _),λk Z=>?_⟩,G.low (λ_ _=>gC _),λk Z=>?_⟩,hi,ho⟩,X⟩
 . (try dsimp only)
   rw [AB Ab,AB Ab,AB Ab]
 . have:=h4 k Z
   (try dsimp only);rw [AB Ab,AQ Ab]
 . have:=O k Z
   (try dsimp only);rw [AB Ab,AB Ab,AQ Ab]
def Win (w:wD) (b o:Nat) (vs pre post:lV) (T:TypeId):Prop:=TB w b (pre++vs++post) T/\pre.length=o
section
variable {ρ ρ':Nat->Rl} {κ κ':Nat->Nat} {r:Rl} {S:nP} {w w' w0:wD} {b o:Nat} {vs pre post:lV} {T:TypeId} {e sz n:Nat} {v:Value} {cs:lV}
def Win.ext (h:Win w b o vs pre post T) (x:Ext w w'):Win w' b o vs pre post T:=⟨h.1.ext x,h.2⟩
instance  : LfE w w' (Win w b o vs pre post T) (Win w' b o vs pre post T):=⟨λx h=>Bk.Win.ext h x⟩
def Win.fr (h:Win w b o vs pre post T) (x:Fr S w w') (G:¬S b):Win w' b o vs pre post T:=⟨h.1.fr x G,h.2⟩
instance  : LfF S w w' (Win w b o vs pre post T) (¬S b) (Win w' b o vs pre post T):=⟨λx s h=>Bk.Win.fr h x s⟩
def Win.blk (h:Win w b o vs pre post T):Row w ⟨b,o,none⟩ vs:=by
 have:=Blk.sub h.1.blk o vs.length;obtain ⟨-,rfl⟩:=h;simpa [gZ] using this
def KW:∀(us pre vs post:lV) (i:Nat),i+us.length<=vs.length->A8 (pre++vs++post) (pre.length+i) us=pre++A8 vs i us++post
 | [],_,_,_,_,_=>rfl
 | u::r,pre,vs,post,i,h=>by
  simp only [gD] at h;simp only [A8];rw [show (pre++vs++post).set (pre.length+i) u=pre++vs.set i u++post by
   rw [gZ,List.set_append_right _ _ Ab,show pre.length+i-pre.length=i by omega,List.set_append_left _ _ Ab,<-gZ]]
  exact KW r pre (vs.set i u) post (i+1) (by simp;omega)
def Cn {P:Program} {m:Nat} {l:Sl} {tab:Tab} {y:Operand} {s:Sk} (b o i:Nat) (vs':lV) (TT:TabOk P tab) (ht:Az tab t=some (s,sz)) (hx:ev l x=some (.pointer (some ⟨b,o+i,none⟩))) (hy:ev l y=some v)
 (hv:v.cells=us.toArray) (hl:us.length=sz) (h1:us.all i6=true) (hb:Win w b o vs pre post T) (ho:iy (i+us.length) vs.length=true) (he:A8 vs i us=vs') :
 BD P m l (.store t x y) ty w (FY λw'=>Win w' b o vs' pre post T/\Fr (· = b) w w'/\w'.heap.size=w.heap.size):=by
 unfold BD;intro a dst pos after g next Q ha _ hn;rw [Nat.ble_eq] at ho;obtain ⟨hb,rfl⟩:=hb;obtain ⟨w1,e1,e2,e3⟩:=EV (P:=P) us w b (pre.length+i) 0 _ hb (by simp only [gO];omega) h1;have e:(execOp a.eval ⟨dst,.store t x y,ty,pos,after,g⟩).run P w = .ok .skip w1:=by
  have hcs:v.cells.toList=us:=by rw [hv]
  have hsz:v.cells.size=sz:=by rw [hv];simpa using hl
  simp only [execOp,ha.ev hx,ha.ev hy,Instr.storeAt,Instr.sureAddr,gE,gP,gw,storeVar,B3 (TT _ _ _ ht),hsz,hcs,e1];simp only [ne_eq,not_true,if_false,gE,gP,gw,e1]
 unfold iB;rw [e];refine hn _ ⟨⟨?_,rfl⟩,e2.fr,e2.size⟩;rw [Nat.add_zero,KW us pre vs post i ho,he] at e3;exact e3
def E9 {P:Program} {m:Nat} {l:Sl} {tab:Tab} {y:Operand} {s:Sk} (b o:Nat) (h:lV) (G:TabOk P tab) (M:Az tab t=some (s,sz)) (N:ev l x=some (.pointer (some ⟨b,o,none⟩))) (O:ev l y=some v)
 (U:v.cells=us.toArray) (V:us.length=sz) (X:us.all i6=true) (Y:Win w b o vs pre post T) (Z:iy us.length vs.length=true) (he:A8 vs 0 us=h) :
 BD P m l (.store t x y) ty w (FY λw'=>Win w' b o h pre post T/\Fr (· = b) w w'/\w'.heap.size=w.heap.size):=
 Cn b o 0 h G M N O U V X Y (by rw [iu];exact Z) he
def OwnP (ρ:Nat->Rl) (r:Rl) (w:wD) (e sz:Nat) (v:Value) (n:Nat) (cs:lV):Prop:=Own w 0 e sz v n cs /\ ∀k,v.ownBlock=some k->ρ k=r
def OwnP.ext (h:OwnP ρ r w e sz v n cs) (x:Ext w w'):OwnP ρ r w' e sz v n cs:=⟨h.1.ext x,h.2⟩
instance  : LfE w w' (OwnP ρ r w e sz v n cs) (OwnP ρ r w' e sz v n cs):=⟨λx h=>Bk.OwnP.ext h x⟩
def OwnP.fr (h:OwnP ρ r w e sz v n cs) (x:Fr S w w') (G:∀k,S k->ρ k≠r):OwnP ρ r w' e sz v n cs:=⟨h.1.fr x (λk M N=>G k N (h.2 k M)),h.2⟩
instance  : LfF S w w' (OwnP ρ r w e sz v n cs) (∀k,S k->ρ k≠r) (OwnP ρ r w' e sz v n cs):=⟨λx s h=>Bk.OwnP.fr h x s⟩
def OwnP.ro (h:OwnP ρ r w e sz v n cs) (x:Ro ρ ρ' w0) (M:w.heap.size<=w0.heap.size):OwnP ρ' r w e sz v n cs:=
 ⟨h.1,λk G=>by have:=(h.1.blk G).2;rw [x k Ab];exact h.2 k G⟩
def OwnP.move (h:OwnP ρ r w e sz v n cs) (x:Fr S w w') (G:∀k,S k->ρ k≠r) (M:Ro ρ ρ' w):OwnP ρ' r w' e sz v n cs:=
 ⟨(h.fr x G).1,(h.ro M (gI _)).2⟩
def OwnR.move (h:OwnR ρ r w v xs) (x:Fr S w w') (G:∀k,S k->ρ k≠r) (M:Ro ρ ρ' w):OwnR ρ' r w' v xs:=
 ⟨(h.fr x G).1,(h.ro M (gI _)).2⟩
abbrev JP (κ:Nat->Nat) (c:Nat):Value:=.pointer (some ⟨κ c,0,none⟩)
structure FrameOk (ρ:Nat->Rl) (κ:Nat->Nat) (w:wD) (j:Nat) (f:Frm) (vv vc:Value):Prop where
 v:OwnP ρ (.vars j) w 77 3 vv f.vars.length (f.vars.flatMap VD.cells)
 c:OwnP ρ (.cels j) w 234 1 vc f.cells.length (f.cells.map (JP κ))
variable {j:Nat} {f:Frm} {vv vc:Value}
def FrameOk.ext (h:FrameOk ρ κ w j f vv vc) (x:Ext w w'):FrameOk ρ κ w' j f vv vc:=⟨h.v.ext x,h.c.ext x⟩
instance  : LfE w w' (FrameOk ρ κ w j f vv vc) (FrameOk ρ κ w' j f vv vc):=⟨λx h=>Bk.FrameOk.ext h x⟩
def FrameOk.fr (h:FrameOk ρ κ w j f vv vc) (x:Fr S w w') (M:∀k,S k->ρ k≠.vars j/\ρ k≠.cels j):FrameOk ρ κ w' j f vv vc:=⟨h.v.fr x (λk G=>(M k G).1),h.c.fr x (λk G=>(M k G).2)⟩
instance  : LfF S w w' (FrameOk ρ κ w j f vv vc) (∀k,S k->ρ k≠.vars j/\ρ k≠.cels j) (FrameOk ρ κ w' j f vv vc):=⟨λx s h=>Bk.FrameOk.fr h x s⟩
def FrameOk.move (h:FrameOk ρ κ w j f vv vc) (x:Fr S w w') (M:∀k,S k->ρ k≠.vars j/\ρ k≠.cels j) (N:Ro ρ ρ' w) (G:∀c∈f.cells,κ' c=κ c):FrameOk ρ' κ' w' j f vv vc:=
 ⟨h.v.move x (λk G=>(M k G).1) N,by
  have:=h.c.move x (λk G=>(M k G).2) N;rw [show f.cells.map (JP κ')=f.cells.map (JP κ) from List.map_congr_left λc O=>by simp only [JP,G c O]];exact this⟩
def FramesOk (ρ:Nat->Rl) (κ:Nat->Nat) (w:wD):Nat->List Frm->lV->Prop
 | _,[],cs=>cs=[]
 | j,f::r,cs=> ∃vv vc cs',cs=[vv,vc,.int .i64 f.locals]++cs'/\FrameOk ρ κ w j f vv vc/\FramesOk ρ κ w (j+1) r cs'
def FramesOk.move {S:nP} (x:Fr S w w') (N:Ro ρ ρ' w):∀(l:List Frm) (j:Nat) (cs:lV),FramesOk ρ κ w j l cs->(∀k,S k -> ∀i,j<=i->i<j+l.length->ρ k≠.vars i/\ρ k≠.cels i)->(∀f∈l,∀c∈f.cells,κ' c=κ c)->FramesOk ρ' κ' w' j l cs
 | [],_,_,h,_,_=>h
 | f::l,j,cs,⟨vv,vc,G,O,U,Y⟩,V,X=>⟨vv,vc,G,O,U.move x (λk M=>V k M j (gI _) AN) N (X f AN),FramesOk.move x N l (j+1) G Y (λk M i O U=>V k M i Ab (by simp only [gD];omega)) (λf Z=>X f (by simp [Z]))⟩
def FramesOk.snoc:∀(l:List Frm) (j:Nat) (f:Frm) (cs:lV),FramesOk ρ κ w j (l++[f]) cs ↔ ∃h vv vc,cs=h++[vv,vc,.int .i64 f.locals]/\FramesOk ρ κ w j l h/\FrameOk ρ κ w (j+l.length) f vv vc
 | [],j,f,cs=>by
  constructor
  . rintro ⟨vv,vc,N,rfl,O,X⟩;obtain rfl:N=[]:=X;exact ⟨[],vv,vc,rfl,rfl,O⟩
  . rintro ⟨h,vv,vc,rfl,Z,O⟩;obtain rfl:h=[]:=Z;exact ⟨vv,vc,[],rfl,O,rfl⟩
 | g::l,j,f,cs=>by
  constructor
  . rintro ⟨vv,vc,N,rfl,O,X⟩;obtain ⟨h,G,M,rfl,Y,V⟩:=(FramesOk.snoc l (j+1) f N).1 X;exact ⟨[vv,vc,.int .i64 g.locals]++h,G,M,AN,⟨vv,vc,h,rfl,O,Y⟩,by rw [gD,show j+(l.length+1)=j+1+l.length by omega];exact V⟩
  . rintro ⟨h,G,M,rfl,⟨vv,vc,U,rfl,O,Y⟩,V⟩;refine ⟨vv,vc,U++[G,M,.int .i64 f.locals],AN,O,(FramesOk.snoc l (j+1) f _).2 ⟨U,G,M,rfl,Y,?_⟩⟩;rw [gD,show j+(l.length+1)=j+1+l.length by omega] at V;exact V
def FramesOk.len:∀(l:List Frm) (j:Nat) (cs:lV),FramesOk ρ κ w j l cs->cs.length=l.length*3
 | [],_,_,h=>by obtain rfl:_=[]:=h;rfl
 | f::l,j,cs,⟨vv,vc,G,M,O,N⟩=>by
  have:=FramesOk.len l (j+1) G N;rw [M];simp only [gO,gD,hH];omega
def CellAt (ρ:Nat->Rl) (κ:Nat->Nat) (w:wD) (c:Nat) (xs:List Int):Prop:=ρ (κ c) = .cell c /\ ∃v,Blk w (κ c) [v]/\OwnR ρ (.items c) w v xs
def CellAt.move {c:Nat} {xs:List Int} (h:CellAt ρ κ w c xs) (x:Fr S w w') (N:∀k,S k->ρ k≠.cell c/\ρ k≠.items c) (O:Ro ρ ρ' w) (G:κ' c=κ c):CellAt ρ' κ' w' c xs:=by
 obtain ⟨U,v,V,X⟩:=h;have M:=V.lt;refine ⟨by rw [G,O _ M,U],v,?_,X.move x (λk G=>(N k G).2) O⟩;rw [G];exact V.fr x (λY=>(N _ Y).1 U)
def Fresh (ρ:Nat->Rl) (w:wD):Prop:= ∀b,w.heap.size<=b->ρ b = .none
def Fresh.ext (h:Fresh ρ w) (x:Ext w w'):Fresh ρ w':=λb G=>h b (by have:=x.size;omega)
instance  : LfE w w' (Fresh ρ w) (Fresh ρ w'):=⟨λx h=>Bk.Fresh.ext h x⟩
def Fresh.mv (h:Fresh ρ w) (x:Fr S w w'):Fresh ρ w':=λb G=>h b (by have:=x.size;omega)
structure StoreAt (ρ:Nat->Rl) (κ:Nat->Nat) (w:wD) (sb:Nat) (st:Stp):Prop where
 role:ρ sb = .store
 fresh:Fresh ρ w
 frs:∃bv bc cv tb cs,Blk w sb [bv,bc,.int .i64 st.base.locals,cv,.pointer (some ⟨tb,0,none⟩)]/\FrameOk ρ κ w 0 st.base bv bc/\OwnP ρ .calls w 229 3 cv st.calls.length cs/\FramesOk ρ κ w 1 st.calls cs/\TapeAt ρ w tb st.tin st.tout
 cells:∀c xs,st.heap[c]? = some xs->CellAt ρ κ w c xs
def Mi:Rl->Prop
 | .none | .other _=>False
 | _=>True
variable {sb:Nat} {st:Stp}
def TapeAt.move {tb:Nat} {ti to:List Int} (h:TapeAt ρ w tb ti to) (x:Fr S w w') (G:∀k,S k->ρ k≠.tape/\ρ k≠.tin/\ρ k≠.tout) (M:Ro ρ ρ' w):TapeAt ρ' w' tb ti to:=by
 obtain ⟨U,⟨X,Y,V,Z,h4⟩,h5,h6⟩:=h;have N:=V.lt;exact ⟨by rw [M _ N,U],⟨X,Y,V.fr x (λhS=>(G _ hS).1 U),Z.move x (λk O=>(G k O).2.1) M,h4.move x (λk O=>(G k O).2.2) M⟩,h5,h6⟩
def StoreAt.move (h:StoreAt ρ κ w sb st) (x:Fr S w w') (Y:∀k,S k -> ¬Mi (ρ k)) (N:Ro ρ ρ' w) (O:Fresh ρ' w'):StoreAt ρ' κ w' sb st:=by
 obtain ⟨V,-,⟨Z,bc,cv,tb,cs,X,h3,h4,h5,h6⟩,h7⟩:=h;have U:=X.lt;have M:∀ {r:Rl},Mi r -> ∀k,S k->ρ k≠r:=λN k G e=>Y k G (by rw [e];exact N)
 exact ⟨by rw [N _ U,V],O,⟨Z,bc,cv,tb,cs,X.fr x (λhS=>M (r:=.store) trivial _ hS V),h3.move x (λk G=>⟨M (by exact trivial) k G,M (by exact trivial) k G⟩) N (λ_ _=>rfl),h4.move x (M (by exact trivial)) N,FramesOk.move x N _ _ _ h5 (λk G i _ _=>⟨M (by exact trivial) k G,M (by exact trivial) k G⟩) (λ_ _ _ _=>rfl),h6.move x (λk G=>⟨M (by exact trivial) k G,M (by exact trivial) k G,M (by exact trivial) k G⟩) N⟩,
  λc xs hc=>(h7 c xs hc).move x (λk G=>⟨M (by exact trivial) k G,M (by exact trivial) k G⟩) N rfl⟩
def Fr.none {w w':wD} (x:Ext w w'):Fr (λ_=>False) w w':=.of_ext x
def StoreAt.ext (h:StoreAt ρ κ w sb st) (x:Ext w w'):StoreAt ρ κ w' sb st:=h.move (Fr.none x) (λ_ h=>h.elim) (Ro.refl _ _) (h.fresh.ext x)
instance  : LfE w w' (StoreAt ρ κ w sb st) (StoreAt ρ κ w' sb st):=⟨λx h=>Bk.StoreAt.ext h x⟩
def StoreAt.fr (h:StoreAt ρ κ w sb st) (x:Fr S w w') (G:∀k,S k -> ¬Mi (ρ k)):StoreAt ρ κ w' sb st:=h.move x G (Ro.refl _ _) (h.fresh.mv x)
instance  : LfF S w w' (StoreAt ρ κ w sb st) (∀k,S k -> ¬Mi (ρ k)) (StoreAt ρ κ w' sb st):=⟨λx s h=>Bk.StoreAt.fr h x s⟩
def CurP (w:wD) (sb fb fo n:Nat):Prop:= ∃x y z a c tp,Blk w sb [x,y,z,.slice a n c,tp]/\((n=0/\fb=sb/\fo=0)\/(0<n/\a=some ⟨fb,0,none⟩/\fo=(n-1)*3))
def CurP.ext {G M:Nat} (h:CurP w sb G M n) (x:Ext w w'):CurP w' sb G M n:=by
 obtain ⟨N,O,a3,a4,a5,U,V,X⟩:=h;exact ⟨N,O,a3,a4,a5,U,V.ext x,X⟩
instance:LfE w w' (CurP w sb t t' n) (CurP w' sb t t' n):=⟨λx h=>Bk.CurP.ext h x⟩
def Fa (ρ:Nat->Rl) (j fb k:Nat):Prop:=k=fb\/ρ k = .vars j\/ρ k = .cels j
def QB (ρ:Nat->Rl) (κ:Nat->Nat) (w:wD) (sb:Nat) (st:Stp) (fb fo:Nat) (pre post:lV) (T:TypeId):Prop:=
 ∀(ρ':Nat->Rl) (κ':Nat->Nat) (w':wD) (f':Frm) (vv' vc':Value),Ro ρ ρ' w->Fresh ρ' w'->(∀f∈st.base::st.calls,∀c∈f.cells,κ' c=κ c)->(∀c,c<st.heap.length->κ' c=κ c)->Fr (Fa ρ st.calls.length fb) w w'->Win w' fb fo [vv',vc',.int .i64 f'.locals] pre post T->FrameOk ρ' κ' w' st.calls.length f' vv' vc'->StoreAt ρ' κ' w' sb (st.setCur f')
def StoreAt.open (h:StoreAt ρ κ w sb st):∃fb fo pre post T vv vc,CurP w sb fb fo st.calls.length/\(ρ fb = .store\/ρ fb = .calls)/\Win w fb fo [vv,vc,.int .i64 st.cur.locals] pre post T/\FrameOk ρ κ w st.calls.length st.cur vv vc/\QB ρ κ w sb st fb fo pre post T:=by
 obtain ⟨Z,-,⟨bv,bc,cv,tb,cs,⟨Ts,h2⟩,h3,h4,h5,h6⟩,h7⟩:=h;have ak:∃a c,cv = .slice a st.calls.length c:=by
  rcases h4.1.row with ⟨rfl,V,-⟩|⟨g,cap,rfl,-⟩
  . exact ⟨none,0,by rw [V]⟩
  . exact ⟨_,_,rfl⟩
 obtain ⟨ca,cc,rfl⟩:=ak;have ag:=Blk.lt ⟨Ts,h2⟩;rcases List.eq_nil_or_concat st.calls with N|⟨l,f,N⟩
 . have M:st.cur=st.base:=by unfold Stp.cur;rw [N];rfl
   refine ⟨sb,0,[],[.slice ca st.calls.length cc,.pointer (some ⟨tb,0,none⟩)],Ts,bv,bc,⟨_,_,_,_,_,_,⟨Ts,h2⟩,gq ⟨by rw [N];rfl,rfl,rfl⟩⟩,gq Z,⟨by rw [M];exact h2,rfl⟩,by rw [M,N];exact h3,?_⟩;intro ρ' κ' w' f' aa ab X ad G ae x hw hf;have hS:∀k,Fa ρ st.calls.length sb k->ρ k = .store\/ρ k = .vars 0\/ρ k = .cels 0:=λk G=>by
    rcases G with rfl|h|h
    . exact gq Z
    . exact gt (gq (by rw [h,N];rfl))
    . exact gt (gt (by rw [h,N];rfl))
   have O:∀ {r:Rl},r≠.store->r≠.vars 0->r≠.cels 0 -> ∀k,Fa ρ st.calls.length sb k->ρ k≠r:=λn1 n2 n3 k G e=>by
    rcases hS k G with h|h|h
    . exact n1 (by rw [<-e,h])
    . exact n2 (by rw [<-e,h])
    . exact n3 (by rw [<-e,h])
   have af:st.setCur f'={ st with base:=f' }:=by unfold ji;rw [AQ N]
   rw [af];refine ⟨by rw [X _ ag,Z],ad,⟨aa,ab,.slice ca st.calls.length cc,tb,cs,⟨Ts,hw.1⟩,?_,h4.move x (O AN AN AN) X,?_,h6.move x (λk G=>⟨O AN AN AN k G,O AN AN AN k G,O AN AN AN k G⟩) X⟩,λc xs hx=>(h7 c xs hx).move x (λk G=>⟨O AN AN AN k G,O AN AN AN k G⟩) X (ae c (by
    rcases gK c st.heap.length with h|h
    . exact h
    . rw [gG h] at hx;cases hx))⟩
   . rw [N] at hf;exact hf
   . show FramesOk ρ' κ' w' 1 st.calls cs;rw [N] at h5 ⊢;exact h5
 . have M:st.cur=f:=by unfold Stp.cur;rw [N];simp
   have V:st.calls.length=l.length+1:=by rw [N];simp
   rw [N,List.concat_eq_append] at h5;obtain ⟨U,vv,vc,rfl,h8,h9⟩:=(FramesOk.snoc l 1 f cs).1 h5;have ac:=FramesOk.len _ _ _ h8;obtain ⟨al,am⟩:=h4;obtain ⟨o1,⟨o2,-⟩|⟨g,cap,cur,o2,o3,o4,o5,o6,o7,o8⟩⟩:=al
   . simp [V] at o2
   . obtain ⟨rfl,rfl⟩:ca=some ⟨g,0,none⟩/\cc=cap:=by simpa using o2
     have hg:=am g rfl;have an:sb≠g:=λe=>by rw [e,hg] at Z;cases Z
     have Y:cur.toList=U++[vv,vc,.int .i64 f.locals]++cur.toList.drop (st.calls.length*3):=by rw [<-o8,List.take_append_drop]
     have ah:TB w g (U++[vv,vc,.int .i64 f.locals]++cur.toList.drop (st.calls.length*3)) 229:=by
      unfold TB;rw [o4,<-Y]
     refine ⟨g,(st.calls.length-1)*3,U,cur.toList.drop (st.calls.length*3),229,vv,vc,⟨_,_,_,_,_,_,⟨Ts,h2⟩,gt ⟨Ab,rfl,rfl⟩⟩,gt hg,⟨by rw [M];exact ah,by rw [ac,V];rfl⟩,by rw [M,V,Nat.add_comm];exact h9,?_⟩;intro ρ' κ' w' f' aa ab X ad G ae x hw hf;have O:∀ {r:Rl},r≠.calls->r≠.vars st.calls.length->r≠.cels st.calls.length -> ∀k,Fa ρ st.calls.length g k->ρ k≠r:=λn1 n2 n3 k G e=>by
      rcases G with rfl|h|h
      . exact n1 (by rw [<-e,hg])
      . exact n2 (by rw [<-e,h])
      . exact n3 (by rw [<-e,h])
     have af:st.setCur f'={ st with calls:=l++[f'] }:=by
      unfold ji;rw [AB (by rw [N];simp),N];simp
     have ai:∀i,i<st.calls.length -> ∀k,Fa ρ st.calls.length g k->ρ k≠.vars i/\ρ k≠.cels i:=λi hi k G=>⟨O AN (by simp;omega) AN k G,O AN AN (by simp;omega) k G⟩
     have ao:g<w.heap.size:=ah.blk.lt;rw [af];refine ⟨by rw [X _ ag,Z],ad,⟨bv,bc,.slice (some ⟨g,0,none⟩) (l++[f']).length cc,tb,U++[aa,ab,.int .i64 f'.locals],?_,h3.move x (ai 0 Ab) X (G _ AN),⟨?_,λk G=>?_⟩,(FramesOk.snoc l 1 f' _).2 ⟨U,aa,ab,rfl,FramesOk.move x X l 1 U h8 (λk G i Z h2=>ai i Ab k G) (λf hf=>G f (by rw [N];simp [hf])),?_⟩,h6.move x (λk G=>⟨O AN AN AN k G,O AN AN AN k G,O AN AN AN k G⟩) X⟩,λc xs hx=>(h7 c xs hx).move x (λk G=>⟨O AN AN AN k G,O AN AN AN k G⟩) X (ae c (by
      rcases gK c st.heap.length with h|h
      . exact h
      . rw [gG h] at hx;cases hx))⟩
     . have:(l++[f']).length=st.calls.length:=by rw [V];simp
       rw [this];exact iO ⟨Ts,h2⟩ x (λh=>by
        rcases h with h|h|h
        . exact an h
        . rw [Z] at h;cases h
        . rw [Z] at h;cases h)
     . have ap:(l++[f']).length=st.calls.length:=by rw [V];simp
       rw [ap];have aj:=hw.1;unfold TB at aj;refine ⟨by simp [ac,V];omega,gt ⟨g,cc,_,rfl,gC _,aj,o5,o6,?_,?_⟩⟩
       . have:=congrArg List.length Y;simp only [Array.length_toList] at this;simp only [List.size_toArray];rw [o7] at this;simp only [gO,gD,hH] at this ⊢;omega
       . simp only [List.toList_toArray];rw [List.take_append_of_le_length (by simp [ac,V];omega)];rw [List.take_of_length_le (by simp [ac,V];omega)]
     . simp only [iI,gy] at G;rw [<-G,X _ ao,hg]
     . rw [V,Nat.add_comm] at hf;exact hf
end
def LeX {α β:Type} (f g:α->Except Int β):Prop:= ∀a,f a≠.error (-1)->g a=f a
def LeX.refl {β:Type} (f:α->Except Int β):LeX f f:=λ_ _=>rfl
def LeX.trans {β:Type} {f g h:α->Except Int β} (M:LeX f g) (N:LeX g h):LeX f h:=λa G=>by
 have e:=M a G;rw [N a (by rw [e];exact G),e]
def LeX.bind {α β γ:Type} {f f':α->Except Int β} {k N:β->Except Int γ} (h:LeX f f') (O:LeX k N):LeX (λa=>(f a).bind k) (λa=>(f' a).bind N):=λa M=>by
 cases e:f a with
 | error x=>
  have G:f a≠.error (-1):=λU=>by
   apply M;simp only [U,gL]
  simp only [h a G,e,gL]
 | ok v=>
  have G:f a≠.error (-1):=by rw [e];simp
  simp only [e,gL] at M;simp only [h a G,e,gL];exact O v M
def LeX.row {f g:Nd->Rn->Except Int Rn}:∀(l:List Nd),(∀t∈l,LeX (f t) (g t))->LeX (Gf f l) (Gf g l)
 | [],_=>LeX.refl _
 | t::l,h=>LeX.bind (f:=f t) (h t AN) (LeX.row l (λx G=>h x (by simp [G])))
def LeX.loop {O U M G:Rn->Except Int Rn} {test entry:Nd} (V:LeX O M) (X:LeX U G):∀(m m':Nat),m<=m'->LeX (Cw O U test entry m) (Cw M G test entry m')
 | 0,_,_=>λa h=>absurd rfl h
 | m+1,0,h=>by omega
 | m+1,m'+1,h=>by
  refine LeX.bind (f:=O) V (LeX.bind (f:=BZ test) (LeX.refl _) λp N=>?_);cases hq:p.1
  . simp only [hq,iE,if_false] at N ⊢;exact LeX.bind (f:=λp:Bool×Rn=>U p.2) (f':=λp:Bool×Rn=>G p.2) (λp N=>X p.2 N) (LeX.bind (f:=BH entry false) (LeX.refl _) (LeX.loop V X m m' Ab)) p N
  . simp only [if_true]
def LeX.block {f g:Bool->Nd->Rn->Except Int Rn} (h:∀b t,LeX (f b t) (g b t)) (b:Bool) (t:Nd):LeX (AW f b t) (AW g b t):=by
 unfold AW;exact LeX.row _ (λx _=>h b x)
def QC (ps:List PD):∀(d:Nat) (b:Bool) (t:Nd),LeX (AI ps d b t) (AI ps (d+1) b t)
 | 0,b,t=>λr h=>absurd (by simp [AI]) h
 | d+1,b,.mk k n s l=>by
  have IH:=QC ps d;have HB:∀b t,LeX (AW (AI ps d) b t) (AW (AI ps (d+1)) b t):=λb t=>LeX.block IH b t
  intro r
  conv=>lhs;unfold AI
  conv=>rhs;lhs;unfold AI
  conv=>rhs;rhs;unfold AI
  revert r;by_cases c1:k=52
  . simp only [AQ c1];refine LeX.bind (f:=BZ _) (LeX.refl _) λp=>?_
    exact LeX.bind (f:=λp:Bool×Rn=>AW (AI ps d) b (if p.1=true then B0 l 1 else B0 l 2) p.2) (f':=λp:Bool×Rn=>AW (AI ps (d+1)) b (if p.1=true then B0 l 1 else B0 l 2) p.2) (λp hp=>HB b _ p.2 hp) (LeX.refl (BH _ p.1)) p
  simp only [AB c1];by_cases c2:k=53
  . simp only [AQ c2];exact LeX.bind (f:=BH _ true) (LeX.refl _) (LeX.loop (HB b _) (HB b _) d (d+1) Ab)
  simp only [AB c2];by_cases c3:k=54
  . simp only [AQ c3];refine LeX.bind (f:=Bn) (LeX.refl _) λr=>?_
    refine LeX.bind (f:=λr=>B4 _ r) (f':=λr=>B4 _ r) (LeX.refl _) (λv=>?_) r;refine LeX.bind (f:=λv=>C3 (·.opens ⟨s,1,0⟩ v) r) (f':=λv=>C3 (·.opens ⟨s,1,0⟩ v) r) (LeX.refl _) ?_ v;exact LeX.bind (HB b _) (LeX.refl _)
  simp only [AB c3];by_cases c4:k=55
  . simp only [AQ c4];exact LeX.bind (f:=Bn) (LeX.refl _) (LeX.bind (f:=C3 (·.opens ⟨s,3,0⟩ 0)) (LeX.refl _) (LeX.bind (HB b _) (LeX.refl _)))
  simp only [AB c4];by_cases c5:k=50\/k=51
  . simp only [AQ c5];exact LeX.bind (f:=Bn) (LeX.refl _) (LeX.bind (f:=C3 _) (LeX.refl _) (LeX.bind (HB _ _) (LeX.refl _)))
  . simp only [AB c5];exact λ_ _=>trivial
def Kf (ps:List PD) (b:Bool) (t:Nd) {d:Nat} (h:d<=r):LeX (AI ps d b t) (AI ps r b t):=by
 induction h with
 | refl=>exact LeX.refl _
 | step _ M=>exact M.trans (QC ps _ b t)
def LeX.blockN {ps:List PD} {d:Nat} (h:d<=r) (b:Bool) (t:Nd):LeX (AW (AI ps d) b t) (AW (AI ps r) b t):=LeX.block (λb t=>Kf ps b t h) b t
def Dec (f:Rn->Except Int Rn):Prop:= ∀r r',f r = .ok r'->r'.rem<=r.rem
def A6 {β:Type} {x:Except Int α} {k:α->Except Int β} {v:β} (h:x.bind k = .ok v):∃a,x = .ok a/\k a = .ok v:=by
 cases x with
 | error e=>simp [gL] at h
 | ok a=>exact ⟨a,rfl,h⟩
def CC {r:Rn} (h:Bn r = .ok c):0<r.rem/\c=⟨r.st,r.rem-1⟩:=by
 unfold Bn at h;split at h
 . cases h
 . cases h;exact ⟨Ab,rfl⟩
def ES {f:Stp->Int×Stp} {r:Rn} (h:C3 f r = .ok c):(f r.st).1=0/\c=⟨(f r.st).2,r.rem⟩:=by
 unfold C3 at h;split at h
 . cases h
 . cases h;exact ⟨Ab,rfl⟩
def WK {t:Nd} {r:Rn} {v:Int} (h:B4 t r = .ok v):A7 r.st.look t=(v,0):=by
 unfold B4 at h;split at h
 . cases h
 . cases h;rename_i h;exact Prod.ext rfl Ab
def Fx {t:Nd} {r:Rn} {p:Bool×Rn} (h:BZ t r = .ok p):0<r.rem/\p.2=⟨r.st,r.rem-1⟩ /\ ∃v,A7 r.st.look t=(v,0)/\p.1=decide (v≠0):=by
 obtain ⟨O,G,h⟩:=A6 h;obtain ⟨v,M,h⟩:=A6 h;cases h;obtain ⟨N,rfl⟩:=CC G;exact ⟨N,rfl,v,WK M,rfl⟩
def D0 {t:Nd} {r:Rn} (h:BH t q r = .ok c):0<r.rem/\c=⟨r.st,r.rem-1⟩ /\ ∃v,A7 r.st.look t=(v,0)/\q=decide (v≠0):=by
 obtain ⟨p,M,h⟩:=A6 h;obtain ⟨N,O,v,U,V⟩:=Fx M;split at h
 . cases h
 . cases h;rename_i X;exact ⟨N,O,v,U,by rw [<-V];simpa using (Decidable.not_not.1 X).symm⟩
def Dec.row {f:Nd->Rn->Except Int Rn}:∀(l:List Nd),(∀t,Dec (f t))->Dec (Gf f l)
 | [],_,r,G,h=>by cases h;exact gI _
 | t::l,M,r,G,h=>by
  obtain ⟨a,N,O⟩:=A6 h;have:=M t r a N;have:=Dec.row l M a G O;omega
def Dec.block {f:Bool->Nd->Rn->Except Int Rn} (h:∀b t,Dec (f b t)) (b:Bool) (t:Nd):Dec (AW f b t):=Dec.row _ (h b)
def Dec.loop {G M:Rn->Except Int Rn} {test entry:Nd} (N:Dec G) (O:Dec M):∀m,Dec (Cw G M test entry m)
 | 0,r,Y,h=>by cases h
 | m+1,r,Y,h=>by
  obtain ⟨a,Z,h⟩:=A6 h;obtain ⟨p,k2,h⟩:=A6 h;have e1:=N r a Z;obtain ⟨e2,U,-⟩:=Fx k2;split at h
  . cases h;rw [U];simp only;omega
  . obtain ⟨c,k3,h⟩:=A6 h;obtain ⟨e,k4,h⟩:=A6 h;have V:=O _ _ k3;obtain ⟨e5,e6,-⟩:=D0 k4;have X:=Dec.loop N O m _ _ h;rw [U] at V;rw [e6] at X;simp only at V X;omega
def Hs (ps:List PD):∀(d:Nat) (b:Bool) (t:Nd),Dec (AI ps d b t)
 | 0,b,t,r,r',h=>by simp [AI] at h
 | d+1,b,.mk k n s l,r,r',h=>by
  have N:∀b t,Dec (AW (AI ps d) b t):=Dec.block (Hs ps d);unfold AI at h;by_cases c1:k=52
  . simp only [AQ c1] at h;obtain ⟨p,G,h⟩:=A6 h;obtain ⟨c,X,h⟩:=A6 h;obtain ⟨Y,e2,-⟩:=Fx G;have M:=N _ _ _ _ X;obtain ⟨Z,e5,-⟩:=D0 h;rw [e2] at M;rw [e5];simp only at M ⊢;omega
  simp only [AB c1] at h;by_cases c2:k=53
  . simp only [AQ c2] at h;obtain ⟨c,X,h⟩:=A6 h;obtain ⟨Z,e5,-⟩:=D0 X;have e6:=Dec.loop (N b _) (N b _) d _ _ h;rw [e5] at e6;simp only at e6;omega
  simp only [AB c2] at h;by_cases c3:k=54
  . simp only [AQ c3] at h;obtain ⟨a1,G,h⟩:=A6 h;obtain ⟨a2,X,h⟩:=A6 h;obtain ⟨a3,O,h⟩:=A6 h;obtain ⟨a4,U,h⟩:=A6 h;obtain ⟨a5,V,h⟩:=A6 h;obtain ⟨a6,k6,h⟩:=A6 h;obtain ⟨Y,rfl⟩:=CC G;obtain ⟨-,rfl⟩:=ES O;have M:=N _ _ _ _ U;obtain ⟨Z,rfl⟩:=CC V;obtain ⟨-,rfl⟩:=ES h;simp only at M ⊢;omega
  simp only [AB c3] at h;by_cases c4:k=55
  . simp only [AQ c4] at h;obtain ⟨a1,G,h⟩:=A6 h;obtain ⟨a3,O,h⟩:=A6 h;obtain ⟨a4,U,h⟩:=A6 h;obtain ⟨a5,V,h⟩:=A6 h;obtain ⟨Y,rfl⟩:=CC G;obtain ⟨-,rfl⟩:=ES O;have M:=N _ _ _ _ U;obtain ⟨Z,rfl⟩:=CC V;obtain ⟨-,rfl⟩:=ES h;simp only at M ⊢;omega
  simp only [AB c4] at h;by_cases c5:k=50\/k=51
  . simp only [AQ c5] at h;obtain ⟨a1,G,h⟩:=A6 h;obtain ⟨a3,O,h⟩:=A6 h;obtain ⟨a4,U,h⟩:=A6 h;obtain ⟨a5,V,h⟩:=A6 h;obtain ⟨Y,rfl⟩:=CC G;obtain ⟨-,rfl⟩:=ES O;have M:=N _ _ _ _ U;obtain ⟨Z,rfl⟩:=CC V;obtain ⟨-,rfl⟩:=ES h;simp only at M ⊢;omega
  . simp only [AB c5] at h;obtain ⟨a1,G,h⟩:=A6 h;obtain ⟨Y,rfl⟩:=CC G;obtain ⟨-,rfl⟩:=ES h;simp only;omega
def WL (k x y:Int):0<=(Ep k x y).2:=by
 have h:∀(c:Prop) [Decidable c] (a b:Int×Int),0<=a.2->0<=b.2->0<=(if c then a else b).2:=λc _ a b G M=>by split<;>assumption
 unfold Ep T0
 repeat' (first|apply h|exact Int.le_refl _|decide)
def WM (k x:Int):0<=(Er k x).2:=by
 unfold Er
 repeat' split
 all_goals simp
def ZX (at_:lB->Option (List Int)):∀(N:Nat) (t:Nd),t.size<N->0<=(A7 at_ t).2
 | 0,_,h=>by omega
 | N+1,.mk k n s l,h=>by
  have G:∀x∈l,0<=(A7 at_ x).2:=λx Y=>by
   have:=GD Y;simp only [Nd.size] at h;exact ZX at_ N x Ab
  unfold A7;by_cases M:k=1
  . simp [M]
  rw [AB M];by_cases O:k=2
  . rw [AQ O];split
    . simp
    . split<;>simp
  rw [AB O];by_cases U:k=3
  . rw [AQ U];split
    . simp
    . split
      . have:=G _ (ia.2 rfl);split
        . exact this
        . split<;>simp
      . simp
  rw [AB U];by_cases V:k=4
  . rw [AQ V];split
    . simp
    . split<;>simp
  rw [AB V];by_cases X:k=5
  . rw [AQ X];split<;>simp
  rw [AB X];split
  . have:=G _ (ia.2 rfl);split
    . exact this
    . exact WM _ _
  . rename_i x y;have Z:=G x AN;have h2:=G y AN;split
    . exact Z
    . split
      . exact h2
      . exact WL _ _ _
  . simp
def R9 (at_:lB->Option (List Int)) (t:Nd):0<=(A7 at_ t).2:=ZX at_ _ t (Nat.lt_succ_self _)
def QD (at_:lB->Option (List Int)) (t:Nd):0<=(Bo at_ t).2:=by
 unfold Bo;split
 . simp
 . split
   . exact R9 _ _
   . simp
def aP (v:List VD) (s:lB) (k:Int):0<=FC v s k:=by
 unfold FC;split
 . simp
 . split<;>simp
mutual
def WN (v:List VD):∀t:Nd,0<=t.bad v
 | .mk k n s l=>by
  unfold Nd.bad;split
  . exact aP _ _ _
  . exact NH v l
def NH (v:List VD):∀l:List Nd,0<=EY v l
 | []=>by simp [EY]
 | t::r=>by
  unfold EY;split
  . exact WN v t
  . exact NH v r
end
def Y3 (st:Stp) (k:Int) (s:lB) (l:List Nd):0<=(st.exec k s l).1:=by
 unfold Stp.exec;simp only;have h:=QD st.look (l.getD 0 (.mk 0 0 [] []));have G:0<=(if k=43 then Bo st.look (l.getD 1 (.mk 0 0 [] [])) else if 40<=k/\k<=42 then A7 st.look (l.getD 1 (.mk 0 0 [] [])) else (0,0)).2:=by
  split
  . exact QD _ _
  . split
    . exact R9 _ _
    . simp
 generalize (if k=43 then Bo st.look (l.getD 1 (.mk 0 0 [] [])) else if 40<=k/\k<=42 then A7 st.look (l.getD 1 (.mk 0 0 [] [])) else (0,0))=r at *;generalize Bo st.look (l.getD 0 (.mk 0 0 [] []))=a at *;split
 . exact h
 split
 . exact G
 unfold Stp.move Stp.transfer
 repeat' split
 all_goals simp
def Y4 (st:Stp) (k n:Int) (s:lB) (l:List Nd):0<=(st.run1 k n s l).1:=by
 unfold Stp.run1;split
 . simp
 split
 . exact WN _ _
 . exact Y3 _ _ _ _
def QE (st:Stp) (v:VD) (x:Int):0<=(st.opens v x).1:=by unfold Stp.opens;split<;>simp
def NI (st:Stp) (s:lB) (x:Int):0<=(st.closes s x).1:=by
 unfold Stp.closes;simp only
 repeat' split
 all_goals simp
def QF (f:Frm):∀(ps:List VD) (h:List lB),0<=(DG f ps h).1
 | [],_=>by simp [DG]
 | _::_,[]=>by simp [DG]
 | v::r,s::q=>by
  unfold DG;split
  . simp
  . split
    . simp
    . exact QF f r q
def UV (st:Stp) (ps:List VD) (h:List lB):0<=(st.enters ps h).1:=by
 unfold Stp.enters;split
 . simp
 split
 . exact QF _ _ _
 . split<;>simp
def UW (st:Stp):0<=(st.leaves).1:=by unfold Stp.leaves;split<;>simp
def Fine {α β:Type} (f:α->Except Int β):Prop:= ∀a,f a≠.error (-1)
def D1:Fine Bn:=λr=>by unfold Bn;split<;>simp
def GU {f:Stp->Int×Stp} (h:∀st,0<=(f st).1):Fine (C3 f):=λr=>by
 unfold C3;have:=h r.st;split
 . simp only [ne_eq,Except.error.injEq];omega
 . simp
def IY (t:Nd):Fine (B4 t):=λr=>by
 unfold B4;have:=R9 r.st.look t;split
 . simp only [ne_eq,Except.error.injEq];omega
 . simp
def Fine.bind {α β γ:Type} {f:α->Except Int β} {k:β->Except Int γ} (h:Fine f) (G:Fine k):Fine (λa=>(f a).bind k):=λa=>by
 cases e:f a with
 | error x=>have:=h a;rw [e] at this;simpa [gL,e] using this
 | ok v=>simpa [gL,e] using G v
def IZ (t:Nd):Fine (BZ t):=λr=>by
 unfold BZ;exact Fine.bind D1 (λr=>Fine.bind (IY t) (λv=>by simp) r) r
def Ht (t:Nd) (q:Bool):Fine (BH t q):=Fine.bind (IZ t) (λp=>by split<;>simp)
def DD {β:Type} {x:Except Int α} {k:α->Except Int β} (h:x≠.error (-1)) (G:∀v,x = .ok v->k v≠.error (-1)):x.bind k≠.error (-1):=by
 cases x with
 | error e=>simpa [gL] using h
 | ok v=>simpa [gL] using G v rfl
def NJ {F:Nat->Nd->Rn->Except Int Rn} (M:∀d V t,d<=V->LeX (F d t) (F V t)) (G:∀d t,Dec (F d t)) (m:Nat):∀(l:List Nd),(∀t∈l,∀r,r.rem<=m -> ∃d,F d t r≠.error (-1)) -> ∀r:Rn,r.rem<=m -> ∃d,Gf (F d) l r≠.error (-1)
 | [],_,r,_=>⟨0,by simp [Gf]⟩
 | t::l,h,r,Z=>by
  obtain ⟨N,U⟩:=h t AN r Z;cases e:F N t r with
  | error x=>
   refine ⟨N,?_⟩;simp only [Gf,e,gL];rw [e] at U;simpa using U
  | ok X=>
   obtain ⟨O,Y⟩:=NJ M G m l (λx hx=>h x (by simp [hx])) X (by have:=G _ _ _ _ e;omega);refine ⟨max N O,?_⟩;simp only [Gf];rw [M N (max N O) t Ab r U,e];simp only [gL];rw [LeX.row l (λx _=>M O (max N O) x Ab) X Y];exact Y
def KX {F:Nat->Bool->Nd->Rn->Except Int Rn} (N:∀d M b t,d<=M->LeX (F d b t) (F M b t)) (G:∀d b t,Dec (F d b t)) (m:Nat) (b:Bool) (t:Nd) (h:∀x∈t.kids,∀r,r.rem<=m -> ∃d,F d b x r≠.error (-1)) (r:Rn) (U:r.rem<=m):∃d,AW (F d) b t r≠.error (-1):=by
 unfold AW;exact NJ (F:=λd=>F d b) (λd M t h=>N d M b t h) (λd t=>G d b t) m _ (λx O=>h x (by split at O<;>simpa using O)) r U
def Mj {B1 B2:Nat->Rn->Except Int Rn} {test entry:Nd} (U:∀d X,d<=X->LeX (B1 d) (B1 X)) (V:∀d X,d<=X->LeX (B2 d) (B2 X)) (Y:∀d,Dec (B1 d)) (Z:∀d,Dec (B2 d)) (m:Nat)
 (h1:∀r,r.rem<=m -> ∃d,B1 d r≠.error (-1)) (h2:∀r,r.rem<=m -> ∃d,B2 d r≠.error (-1)):∀(q:Nat) (r:Rn),r.rem<=q->r.rem<=m -> ∃d,Cw (B1 d) (B2 d) test entry d r≠.error (-1)
 | q,r,hq,hr=>by
  obtain ⟨G,k1⟩:=h1 r hr;have key:∀d,G<=d->B1 d r=B1 G r:=λd h=>U G d h r k1
  cases e1:B1 G r with
  | error x=>
   refine ⟨G+1,?_⟩;rw [e1] at k1;simp only [Cw,key (G+1) Ab,e1,gL];simpa using k1
  | ok a=>
   have s1:=Y _ _ _ e1;cases e2:BZ test a with
   | error x=>
    refine ⟨G+1,?_⟩;have:=IZ test a;rw [e2] at this;simp only [Cw,key (G+1) Ab,e1,e2,gL];simpa using this
   | ok p=>
    obtain ⟨s2,s3,-⟩:=Fx e2;have s4:p.2.rem<r.rem:=by rw [s3];simp only;omega
    cases hp:p.1 with
    | true=>
     refine ⟨G+1,?_⟩;simp only [Cw,key (G+1) Ab,e1,e2,gL,hp,if_true];simp
    | false=>
     obtain ⟨M,k2⟩:=h2 p.2 Ab;have N:∀d,M<=d->B2 d p.2=B2 M p.2:=λd h=>V M d h _ k2
     cases e3:B2 M p.2 with
     | error x=>
      refine ⟨max G M+1,?_⟩;rw [e3] at k2;simp only [Cw,key (max G M+1) Ab,e1,e2,gL,hp,N (max G M+1) Ab,e3];simpa using k2
     | ok c=>
      have s5:=Z _ _ _ e3;cases e4:BH entry false c with
      | error x=>
       refine ⟨max G M+1,?_⟩;have:=Ht entry false c;rw [e4] at this;simp only [Cw,key (max G M+1) Ab,e1,e2,gL,hp,N (max G M+1) Ab,e3,e4];simpa using this
      | ok g=>
       obtain ⟨s6,s7,-⟩:=D0 e4;have s8:g.rem<r.rem:=by rw [s7];simp only;omega
       match q,hq with
       | 0,hq=>omega
       | q+1,hq=>
        obtain ⟨O,k3⟩:=Mj U V Y Z m h1 h2 q g Ab Ab;refine ⟨max (max G M) O+1,?_⟩;simp only [Cw,key (max (max G M) O+1) Ab,e1,e2,gL,hp,N (max (max G M) O+1) Ab,e3,e4];have:=LeX.loop (test:=test) (entry:=entry) (U O (max (max G M) O+1) Ab) (V O (max (max G M) O+1) Ab) O (max (max G M) O) Ab g k3;simp only [iE,if_false];rw [this];exact k3
def DE {x:Except Int α} {K:Nat->α->Except Int Rn} (h:x≠.error (-1)) (G:∀v,x = .ok v -> ∃d,K d v≠.error (-1)):∃d,x.bind (K d)≠.error (-1):=by
 cases x with
 | error e=>exact ⟨0,by simpa [gL] using h⟩
 | ok v=>exact G v rfl
def Sa (ps:List PD):∀(m:Nat) (b:Bool) (t:Nd) (r:Rn),r.rem<=m -> ∃d,AI ps d b t r≠.error (-1):=by
 intro m
 induction m with
 | zero=>
  intro b t r h;refine ⟨1,?_⟩;obtain ⟨k,n,s,l⟩:=t;have e:Bn r = .error 18:=by unfold Bn;rw [AQ Ab]
  unfold AI;simp only [BZ,BH,e,gL]
  repeat' split
  all_goals simp
 | succ m IH=>
  intro b t r h;obtain ⟨k,n,s,l⟩:=t;have X:∀(b:Bool) (t:Nd) (r:Rn),r.rem<=m -> ∃d,AW (AI ps d) b t r≠.error (-1):=λb t r O=>
   KX (F:=λd=>AI ps d) (λd d' b t h=>Kf ps b t h) (λd b t=>Hs ps d b t) m b t (λx _ r O=>IH b x r O) r O
  have U:∀G,Bn r = .ok G->G.rem<=m:=λG V=>by
   obtain ⟨-,rfl⟩:=CC V;simp only;omega
  by_cases Y:k=52
  . obtain ⟨d,M⟩:=DE (K:=λd (p:Bool×Rn)=>(AW (AI ps d) b (if p.1 then B0 l 1 else B0 l 2) p.2).bind (BH (if b then B0 l 0 else B0 l (l.length-1)) p.1)) (IZ (if b then B0 l (l.length-1) else B0 l 0) r) (λp hp=>by
     obtain ⟨-,N,-⟩:=Fx hp;obtain ⟨d,M⟩:=X b (if p.1 then B0 l 1 else B0 l 2) p.2 (by rw [N];simp only;omega);exact ⟨d,DD M (λv _=>Ht _ _ v)⟩)
    exact ⟨d+1,by simp only [AI,AQ Y];exact M⟩
  by_cases Z:k=53
  . obtain ⟨d,M⟩:=DE (K:=λd (p:Rn)=>Cw (AW (AI ps d) b (B0 l 1)) (AW (AI ps d) b (B0 l 2)) (if b then B0 l 0 else B0 l (l.length-1)) (if b then B0 l (l.length-1) else B0 l 0) d p) (Ht (if b then B0 l (l.length-1) else B0 l 0) true r) (λp hp=>by
     obtain ⟨-,N,-⟩:=D0 hp;exact Mj (B1:=λd=>AW (AI ps d) b (B0 l 1)) (B2:=λd=>AW (AI ps d) b (B0 l 2)) (λd d' h=>LeX.blockN h b _) (λd d' h=>LeX.blockN h b _) (λd=>Dec.block (Hs ps d) b _) (λd=>Dec.block (Hs ps d) b _) m (λr O=>X b _ r O) (λr O=>X b _ r O) p.rem p (gI _) (by rw [N];simp only;omega))
    exact ⟨d+1,by simp only [AI,AB Y,AQ Z];exact M⟩
  by_cases c3:k=54
  . obtain ⟨d,M⟩:=DE (K:=λd (r:Rn)=>(B4 (if b then B0 l (l.length-1) else B0 l 0) r).bind λv=>(C3 (·.opens ⟨s,1,0⟩ v) r).bind λr=>(AW (AI ps d) b (B0 l 1) r).bind λr=>
     (Bn r).bind λr=>(B4 (if b then B0 l 0 else B0 l (l.length-1)) r).bind λv=>C3 (·.closes s v) r) (D1 r) (λG V=>by
     have hm:=U G V;refine DE (K:=λd v=>(C3 (·.opens ⟨s,1,0⟩ v) G).bind λr=>(AW (AI ps d) b (B0 l 1) r).bind λr=>
      (Bn r).bind λr=>(B4 (if b then B0 l 0 else B0 l (l.length-1)) r).bind λv=>C3 (·.closes s v) r) (IY _ G) (λv _=>?_)
     refine DE (K:=λd r=>(AW (AI ps d) b (B0 l 1) r).bind λr=>(Bn r).bind λr=>(B4 (if b then B0 l 0 else B0 l (l.length-1)) r).bind λv=>C3 (·.closes s v) r) (GU (λst=>QE st _ _) G) (λr2 N=>?_);obtain ⟨-,rfl⟩:=ES N;obtain ⟨d,M⟩:=X b (B0 l 1) ⟨(G.st.opens ⟨s,1,0⟩ v).2,G.rem⟩ hm;exact ⟨d,DD M (λv _=>DD (D1 v) (λu _=>DD (IY _ u) (λx _=>GU (λst=>NI st _ _) u)))⟩)
    exact ⟨d+1,by simp only [AI,AB Y,AB Z,AQ c3];exact M⟩
  by_cases c4:k=55
  . obtain ⟨d,M⟩:=DE (K:=λd (r:Rn)=>(C3 (·.opens ⟨s,3,0⟩ 0) r).bind λr=>(AW (AI ps d) b (B0 l 0) r).bind λr=>(Bn r).bind (C3 (·.closes s 0))) (D1 r) (λG V=>by
     have hm:=U G V;refine DE (K:=λd r=>(AW (AI ps d) b (B0 l 0) r).bind λr=>(Bn r).bind (C3 (·.closes s 0))) (GU (λst=>QE st _ _) G) (λr2 N=>?_);obtain ⟨-,rfl⟩:=ES N;obtain ⟨d,M⟩:=X b (B0 l 0) ⟨(G.st.opens ⟨s,3,0⟩ 0).2,G.rem⟩ hm;exact ⟨d,DD M (λv _=>DD (D1 v) (λu _=>GU (λst=>NI st _ _) u))⟩)
    exact ⟨d+1,by simp only [AI,AB Y,AB Z,AB c3,AQ c4];exact M⟩
  by_cases c5:k=50\/k=51
  . obtain ⟨d,M⟩:=DE (K:=λd (r:Rn)=>(C3 (·.enters (ps.getD ((CA ps s).getD 0) ⟨[],[],.mk 0 0 [] []⟩).params (l.map Nd.name)) r).bind λr=>(AW (AI ps d) (b != decide (k=51)) (ps.getD ((CA ps s).getD 0) ⟨[],[],.mk 0 0 [] []⟩).body r).bind λr=>(Bn r).bind (C3 (·.leaves))) (D1 r) (λG V=>by
     have hm:=U G V;refine DE (K:=λd r=>(AW (AI ps d) (b != decide (k=51)) (ps.getD ((CA ps s).getD 0) ⟨[],[],.mk 0 0 [] []⟩).body r).bind λr=>(Bn r).bind (C3 (·.leaves))) (GU (λst=>UV st _ _) G) (λr2 N=>?_);obtain ⟨-,rfl⟩:=ES N;obtain ⟨d,M⟩:=X (b != decide (k=51)) (ps.getD ((CA ps s).getD 0) ⟨[],[],.mk 0 0 [] []⟩).body ⟨(G.st.enters (ps.getD ((CA ps s).getD 0) ⟨[],[],.mk 0 0 [] []⟩).params (l.map Nd.name)).2,G.rem⟩ hm;exact ⟨d,DD M (λv _=>DD (D1 v) (λu _=>GU UW u))⟩)
    exact ⟨d+1,by simp only [AI,AB Y,AB Z,AB c3,AB c4,AQ c5];exact M⟩
  . refine ⟨1,?_⟩;simp only [AI,AB Y,AB Z,AB c3,AB c4,AB c5];exact DD (D1 r) (λu _=>GU (λst=>Y4 st _ _ _ _) u)
def cellOk (x:Int×Int) (xs:List Int):Prop:=(x.1=1/\xs.length=1)\/(x.1=2/\(xs.length:Int)=x.2/\xs.length<=1000000)\/(x.1=3/\xs.length<=1000)
def cellOk.le {x:Int×Int} (h:cellOk x xs):xs.length<=1000000:=by
 rcases h with ⟨-,h⟩|⟨-,h⟩|⟨-,h⟩<;>omega
structure FrmWF (K:List (Int×Int)) (f:Frm):Prop where
 len:f.vars.length=f.cells.length
 loc:f.locals<=f.vars.length
 kind:∀(i:Nat) (v:VD) (c:Nat),f.vars[i]? = some v->f.cells[i]? = some c->K[c]? = some (v.kind,v.len)
structure Stp.WF (K:List (Int×Int)) (m:Nat) (st:Stp):Prop where
 len:st.heap.length=K.length
 base:FrmWF K st.base
 calls:∀f∈st.calls,FrmWF K f
 cell:∀(c:Nat) (x:Int×Int),K[c]? = some x->cellOk x (st.items c)
 nc:st.calls.length<=100
 vb:∀f∈st.base::st.calls,f.vars.length<=m
def F7 {l:List α} {x:α} (h:x∈l.dropLast):x∈l:=(List.dropLast_sublist l).subset h
def OH (st:Stp):st.cur∈st.base::st.calls:=by
 unfold Stp.cur;rcases List.eq_nil_or_concat st.calls with h|⟨l,f,h⟩<;>rw [h]<;>simp
def FrmWF.lt {K:List (Int×Int)} {f:Frm} (h:FrmWF K f) {c:Nat} (N:c∈f.cells):c<K.length:=by
 obtain ⟨i,M,rfl⟩:=List.getElem_of_mem N;have:=h.kind i _ _ (gm (by rw [h.len];exact M)) (gm M);rcases gK f.cells[i] K.length with G|G
 . exact G
 . rw [gG G] at this;cases this
section
variable {K:List (Int×Int)} {m:Nat} {st:Stp}
def Stp.WF.all' (h:st.WF K m):∀f∈st.base::st.calls,FrmWF K f:=λf G=>by
 rcases ik.1 G with rfl|G
 . exact h.base
 . exact h.calls f G
def Stp.WF.cur (h:st.WF K m):FrmWF K st.cur:=h.all' _ (OH st)
def Stp.WF.curm (h:st.WF K m):st.cur.vars.length<=m:=h.vb _ (OH st)
def Gq {s:lB}:∀ {l:List VD} {i:Nat},Ct s l=some i->i<l.length
 | [],i,h=>by cases h
 | v::r,i,h=>by
  unfold Ct at h;split at h
  . rename_i j G;cases h;have:=Gq G;simp only [gD];omega
  . split at h
    . cases h;simp
    . cases h
def Mk (s:lB):∀l:List VD,D8 l s=(Ct s l).bind (l[·]?)
 | []=>rfl
 | v::r=>by
  have G:=Mk s r;unfold D8 at G ⊢;unfold Ct;rw [List.reverse_cons,List.find?_append,G];cases h:Ct s r with
  | none=>by_cases M:v.name=s<;>simp [M]
  | some i=>simp [gm (Gq h)]
def Fy {s:lB}:∀ {l:List VD} {i:Nat},Ct s l=some i -> ∃v,l[i]? = some v/\v.name=s
 | [],i,h=>by cases h
 | v::r,i,h=>by
  unfold Ct at h;split at h
  . rename_i j G;cases h;obtain ⟨x,M,N⟩:=Fy G;exact ⟨x,by simpa using M,N⟩
  . split at h
    . rename_i O;cases h;exact ⟨v,rfl,O⟩
    . cases h
def aQ {v:List VD} (h:FC v s k=0):∃i x,Ct s v=some i/\v[i]? = some x/\x.kind=k:=by
 unfold FC at h;rw [Mk] at h;cases e:Ct s v with
 | none=>rw [e] at h;simp at h
 | some i=>
  rw [e] at h;obtain ⟨x,G,-⟩:=Fy e;simp only [Option.bind_some,G] at h;refine ⟨i,x,rfl,G,?_⟩;split at h
  . assumption
  . cases h
def Stp.WF.use (h:st.WF K m) (Y:FC st.cur.vars s k=0):∃i c x,Ct s st.cur.vars=some i/\st.cur.cells[i]? = some c/\st.cellD s=c/\st.look s=some (st.items c)/\c<st.heap.length/\K[c]? = some x/\x.1=k/\cellOk x (st.items c):=by
 obtain ⟨i,x,M,O,Z⟩:=aQ Y;have hi:=Gq M;have N:=h.cur;have G:i<st.cur.cells.length:=by rw [<-N.len];exact hi
 have U:=gm G;have V:=N.kind i x _ O U;have X:st.cur.cell s=some st.cur.cells[i]:=by unfold Frm.cell;rw [M];simp [O]
 refine ⟨i,st.cur.cells[i],(x.kind,x.len),M,U,?_,?_,?_,V,Z,h.cell _ _ V⟩
 . unfold Stp.cellD;rw [X];rfl
 . unfold Stp.look;rw [X];rfl
 . rw [h.len];exact N.lt (gA G)
def Stp.WF.look_le (h:st.WF K m) (G:st.look s=some xs):xs.length<=1000000:=by
 unfold Stp.look at G;cases e:st.cur.cell s with
 | none=>rw [e] at G;cases G
 | some c=>
  rw [e] at G;cases G;unfold Frm.cell at e;cases e1:Ct s st.cur.vars with
  | none=>rw [e1] at e;cases e
  | some i=>
   rw [e1] at e;simp only [Option.bind_some] at e;obtain ⟨x,M,-⟩:=Fy e1;exact (h.cell _ _ (h.cur.kind i x c M e)).le
def Stp.WF.same {st':Stp} (h:st.WF K m) (N:st'.heap.length=st.heap.length) (M:st'.base=st.base) (G:st'.calls=st.calls) (O:∀c x,K[c]? = some x->cellOk x (st'.items c)):st'.WF K m:=
 ⟨N.trans h.len,M▸h.base,G▸h.calls,O,G▸h.nc,by rw [M,G];exact h.vb⟩
def cellOk.len {x:Int×Int} {ys:List Int} (h:cellOk x xs) (e:ys.length=xs.length):cellOk x ys:=by unfold cellOk at h ⊢;rw [e];exact h
def Gr (st:Stp) (c:Nat) (xs:List Int) (h:Nat):(st.all c xs).items h=if h=c/\c<st.heap.length then xs else st.items h:=by
 unfold Stp.all jq;simp only [gY];by_cases G:h=c
 . subst G;by_cases M:h<st.heap.length
   . simp [M]
   . simp [M]
 . simp [G,iF (Ne.symm G)]
def Y5 (st:Stp) (c i:Nat) (v:Int) (G:Nat):((st.put c i v).items G).length=(st.items G).length:=by
 unfold Stp.put;rw [Gr];split
 . rename_i h;rw [h.1];simp
 . rfl
def Stp.WF.put (h:st.WF K m) (c i:Nat) (v:Int):(st.put c i v).WF K m:=
 h.same (by simp [Stp.put,Stp.all]) rfl rfl (λG x M=>(h.cell G x M).len (Y5 st c i v G))
def Stp.WF.tapes (h:st.WF K m) (a b:List Int):({ st with tin:=a,tout:=b }:Stp).WF K m:=h.same rfl rfl rfl h.cell
def Stp.WF.all (h:st.WF K m) {c:Nat} {x:Int×Int} {xs:List Int} (M:K[c]? = some x) (N:cellOk x xs):(st.all c xs).WF K m:=
 h.same (by simp [Stp.all]) rfl rfl (λO U G=>by
  rw [Gr];split
  . rename_i e;rw [e.1,M] at G;cases G;exact N
  . exact h.cell O U G)
def Stp.WF.transfer (h:st.WF K m) (k:Int) (c i:Nat):(st.transfer k c i).2.WF K m:=by
 have G:=λv=>h.put c i v
 unfold Stp.transfer
 repeat' split
 all_goals first|exact h|exact (G _).tapes _ _
def Stp.WF.move (h:st.WF K m) {d:Nat} {x:Int×Int} (G:K[d]? = some x) (M:x.1=3) (k:Int) (c i:Nat):(st.move k c i d).2.WF K m:=by
 have O:=h.cell d x G;have U:(st.items d).length<=1000:=by rcases O with ⟨N,-⟩|⟨N,-⟩|⟨-,N⟩<;>omega
 unfold Stp.move;split
 . split
   . exact h
   . exact (h.all G (gt (gt ⟨M,by simp;omega⟩))).put _ _ _
 . split
   . exact h
   . split
     . exact h
     . exact (h.put _ _ _).all G (gt (gt ⟨M,by simp;omega⟩))
def Stp.WF.exec (h:st.WF K m) {k:Int} {s:lB} (l:List Nd) (G:(k=44\/k=45)->FC st.cur.vars s 3=0):(st.exec k s l).2.WF K m:=by
 unfold Stp.exec;simp only;generalize (if k=43 then Bo st.look (l.getD 1 (.mk 0 0 [] [])) else if 40<=k/\k<=42 then A7 st.look (l.getD 1 (.mk 0 0 [] [])) else (0,0))=r;split
 . exact h
 split
 . exact h
 split
 . exact h
 split
 . exact h.put _ _ _
 split
 . split
   . exact h
   . exact (h.put _ _ _).put _ _ _
 split
 . rename_i M;obtain ⟨i,c,x,-,-,N,-,-,O,U,-⟩:=h.use (G M);rw [N];exact h.move O U _ _ _
 . exact h.transfer _ _ _
def OI {v:List VD} {n:Int} {l:List Nd} (h:(Nd.mk k n s l).bad v=0):(CQ k≠0->FC v s (CQ k)=0)/\EY v l=0:=by
 unfold Nd.bad at h;by_cases G:CQ k≠0/\FC v s (CQ k)≠0
 . rw [AQ G] at h;exact absurd h G.2
 . rw [AB G] at h;exact ⟨λN=>by
    by_cases M:FC v s (CQ k)=0
    . exact M
    . exact absurd ⟨N,M⟩ G,h⟩
def D2 {v:List VD} {t:Nd} {l:List Nd} (h:EY v (t::l)=0):t.bad v=0/\EY v l=0:=by
 unfold EY at h;by_cases G:t.bad v≠0
 . rw [AQ G] at h;exact absurd h G
 . rw [AB G] at h;exact ⟨Ab,h⟩
def Stp.WF.run1 (h:st.WF K m) (k n:Int) (s:lB) (l:List Nd):(st.run1 k n s l).2.WF K m:=by
 unfold Stp.run1;split
 . exact h
 split
 . exact h
 . rename_i G;have:=(OI (n:=n) (Decidable.not_not.1 G)).1;refine h.exec l (λM=>?_);have e:CQ k=3:=by unfold CQ;rcases M with rfl|rfl<;>decide
   rw [e] at this;exact this CH
def Sb {st:Stp} {f g:Frm} (h:g∈(st.setCur f).base::(st.setCur f).calls):g=f\/g∈st.base::st.calls:=by
 unfold ji at h;split at h
 . rcases ik.1 h with h|h
   . exact gq h
   . exact gt (List.mem_cons_of_mem _ h)
 . rcases ik.1 h with h|h
   . exact gt (by simp only at h;rw [h];simp)
   . rcases List.mem_append.1 h with h|h
     . exact gt (List.mem_cons_of_mem _ (F7 h))
     . exact gq (by simpa using h)
def Stp.WF.setCur (h:st.WF K m) {f:Frm} (U:FrmWF K f) {m':Nat} (V:f.vars.length<=m') (M:m<=m'):(st.setCur f).WF K m':=by
 have key:∀g∈(st.setCur f).base::(st.setCur f).calls,FrmWF K g/\g.vars.length<=m':=λg G=>by
  rcases Sb G with rfl|G
  . exact ⟨U,V⟩
  . exact ⟨h.all' g G,Nat.le_trans (h.vb g G) M⟩
 have N:(st.setCur f).calls.length=st.calls.length:=by
  unfold ji;split
  . rfl
  . rename_i X;have:=List.length_pos_iff.2 X;simp only [gO,List.length_dropLast,gD,hH];omega
 have O:(st.setCur f).heap=st.heap:=by unfold ji;split<;>rfl
 refine ⟨by rw [O];exact h.len,(key _ AN).1,λg G=>(key g (by simp [G])).1,λc x Y=>?_,by rw [N];exact h.nc,λg G=>(key g G).2⟩;have:(st.setCur f).items c=st.items c:=by unfold jq;rw [O]
 rw [this];exact h.cell c x Y
def FrmWF.more {f:Frm} (h:FrmWF K f) (x:Int×Int):FrmWF (K++[x]) f:=⟨h.len,h.loc,λi v c M G=>by
 have:=h.kind i v c M G;have N:c<K.length:=h.lt (io G);rw [gJ N];exact this⟩
def Stp.WF.more (h:st.WF K m) {x:Int×Int} {xs:List Int} (N:cellOk x xs):({ st with heap:=st.heap++[xs] }:Stp).WF (K++[x]) m:=by
 refine ⟨by simp [h.len],h.base.more x,λf O=>(h.calls f O).more x,λc y G=>?_,h.nc,h.vb⟩;unfold jq;simp only [gY];rcases Nat.lt_trichotomy c K.length with M|M|M
 . rw [gJ M] at G;rw [gJ (by rw [h.len];exact M)];have:=h.cell c y G;unfold jq at this;simpa only [gY] using this
 . subst M;rw [gU (gI _)] at G;rw [gU (by rw [h.len];exact gI _)];simp only [Nat.sub_self,gX,gy] at G;subst G;rw [h.len];simpa using N
 . rw [gG (by simp;omega)] at G;cases G
def Stp.WF.opens (h:st.WF K m) {v:VD} (N:v.kind=1\/v.kind=3) (x:Int):∃X,(st.opens v x).2.WF X (m+1):=by
 unfold Stp.opens;split
 . exact ⟨K,h.len,h.base,h.calls,h.cell,h.nc,λf V=>Nat.le_succ_of_le (h.vb f V)⟩
 . have M:=h.cur;have Y:cellOk (v.kind,v.len) (if v.kind=1 then [x] else []):=by
    rcases N with N|N
    . rw [AQ N];exact gq ⟨N,rfl⟩
    . rw [AB Ab];exact gt (gt ⟨N,AN⟩)
   have Z:=h.more Y;have V:FrmWF (K++[(v.kind,v.len)]) ⟨st.cur.vars++[v],st.cur.cells++[st.heap.length],st.cur.locals+1⟩:=by
    refine ⟨by simp [M.len],by have:=M.loc;simp;omega,λi u c G O=>?_⟩;simp only at G O;rcases Nat.lt_trichotomy i st.cur.vars.length with U|U|U
    . rw [gJ U] at G;rw [gJ (by rw [<-M.len];exact U)] at O;exact (M.more _).kind i u c G O
    . subst U;rw [gU (gI _)] at G;rw [gU (by rw [M.len];exact gI _),M.len] at O;simp only [Nat.sub_self,gX,gy] at G O;subst G O;rw [h.len,gU (gI _)];simp
    . rw [gG (by simp;omega)] at G;cases G
   have G:=Z.setCur V (m':=m+1) (by have:=h.curm;simp;omega) Ab;refine ⟨K++[(v.kind,v.len)],?_⟩;have e:({ st.setCur ⟨st.cur.vars++[v],st.cur.cells++[st.heap.length],st.cur.locals+1⟩ with heap:=st.heap++[if v.kind=1 then [x] else []] }:Stp)=({ st with heap:=st.heap++[if v.kind=1 then [x] else []] }:Stp).setCur ⟨st.cur.vars++[v],st.cur.cells++[st.heap.length],st.cur.locals+1⟩:=by
    generalize (if v.kind=1 then [x] else [])=q;unfold ji;by_cases M:st.calls=[]<;>simp [M]
   rw [e];exact G
def Stp.WF.closes (h:st.WF K m) (s:lB) (x:Int):(st.closes s x).2.WF K m:=by
 unfold Stp.closes;simp only;split
 . exact h
 split
 . exact h
 . rename_i O U;have N:=h.cur;refine h.setCur ⟨by simp [N.len],by have:=N.loc;simp;omega,λi v c G M=>?_⟩ (by have:=h.curm;simp;omega) (gI _);simp only [List.getElem?_dropLast] at G M;split at G
   . split at M
     . exact N.kind i v c G M
     . cases M
   . cases G
def QG {f:Frm}:∀(ps:List VD) (G:List lB),ps.length=G.length->(DG f ps G).1=0->(DG f ps G).2.length=ps.length /\ ∀(i:Nat) (v:VD) (c:Nat),ps[i]? = some v->(DG f ps G).2[i]? = some c -> ∃(j:Nat) (u:VD),f.vars[j]? = some u/\f.cells.getD j 0=c/\u.kind=v.kind/\u.len=v.len
 | [],_,_,_=>⟨by simp [DG],λi v c h=>by simp at h⟩
 | _::_,[],h,_=>by cases h
 | v::r,s::q,V,h=>by
  unfold DG at h ⊢;cases e:Ct s f.vars with
  | none=>rw [e] at h;cases h
  | some j=>
   rw [e] at h;simp only at h ⊢;by_cases M:(f.vars.getD j ⟨[],0,0⟩).kind≠v.kind\/(f.vars.getD j ⟨[],0,0⟩).len≠v.len
   . rw [AQ M] at h;cases h
   . rw [AB M] at h ⊢;obtain ⟨X,Y⟩:=QG r q (by simpa using V) h;obtain ⟨u,U,-⟩:=Fy e;refine ⟨by simp [X],λi w c N O=>?_⟩;cases i with
     | zero=>
      simp only [gX,gy] at N O;subst N O;have Z:f.vars.getD j ⟨[],0,0⟩=u:=by rw [gY,U];rfl
      rw [Z] at M;refine ⟨j,u,U,rfl,?_,?_⟩<;>omega
     | succ i=>exact Y i w c (by simpa using N) (by simpa using O)
def Stp.WF.enters (h:st.WF K m) {ps:List VD} (Z:ps.length<=m) (O:List lB):(st.enters ps O).2.WF K m:=by
 unfold Stp.enters;split
 . exact h
 split
 . exact h
 split
 . exact h
 . rename_i h1 h2 h3;obtain ⟨k1,k2⟩:=QG (f:=st.cur) ps O Ab Ab;have Y:=h.cur;have hf:FrmWF K ⟨ps,(DG st.cur ps O).2,0⟩:=⟨k1.symm,gC _,λi v c G N=>by
    obtain ⟨j,u,U,h7,h8,h9⟩:=k2 i v c G N;have hj:j<st.cur.cells.length:=by
     rw [<-Y.len];rcases gK j st.cur.vars.length with V|V
     . exact V
     . rw [gG V] at U;cases U
    have X:st.cur.cells[j]? = some c:=by rw [<-h7,gY,gm hj];rfl
    rw [<-h8,<-h9];exact Y.kind j u c U X⟩
   refine ⟨h.len,h.base,λf M=>?_,h.cell,by simp;omega,λf M=>?_⟩
   . rcases List.mem_append.1 M with G|G
     . exact h.calls f G
     . rw [ia.1 G];exact hf
   . rcases ik.1 M with G|G
     . exact h.vb f (by simp only at G;rw [G];simp)
     . rcases List.mem_append.1 G with N|N
       . exact h.vb f (by simp [N])
       . rw [ia.1 N];exact Z
def Stp.WF.leaves (h:st.WF K m):(st.leaves).2.WF K m:=by
 unfold Stp.leaves;split
 . exact h
 . exact ⟨h.len,h.base,λf M=>h.calls f (F7 M),h.cell,by have:=h.nc;simp;omega,λf M=>h.vb f (by
    rcases ik.1 M with G|G
    . simp only at G;rw [G];simp
    . simp only at G;simp [F7 G])⟩
end
def Ml {α β:Type} {f:α->List β} {k:Nat} (G:∀x,(f x).length=k):∀(l:List α) (i:Nat) (x:α),l[i]? = some x->((l.flatMap f).drop (i*k)).take k=f x
 | [],i,x,h=>by simp at h
 | y::r,0,x,h=>by
  simp only [gX,gy] at h;subst h;rw [List.flatMap_cons,Nat.zero_mul,List.drop_zero,List.take_append_of_le_length (by rw [G];exact gI _),List.take_of_length_le (by rw [G];exact gI _)]
 | y::r,i+1,x,h=>by
  rw [List.flatMap_cons,show (i+1)*k=(f y).length+i*k by rw [G,Nat.add_mul];omega,<-List.drop_drop,List.drop_left];exact Ml G r i x (by simpa using h)
def GV {e:TypeId} {S:nP} (h:Own w 0 e 3 v l.length (l.flatMap VD.cells)) (M:∀k,v.ownBlock=some k->S k):∃a c,v = .slice a l.length c/\VDs S w l a:=by
 rcases h.row with ⟨rfl,G,-⟩|⟨g,cap,rfl,-,N,O⟩
 . exact ⟨none,0,by rw [G],gq (List.length_eq_zero_iff.1 G)⟩
 . refine ⟨_,cap,rfl,gt ⟨g,0,rfl,M g N,λi x U=>?_⟩⟩;have:=O.sub (i*3) 3;rw [Ml (f:=VD.cells) (k:=3) (λ_=>rfl) l i x U] at this;exact this
def Ptrs (κ:Nat->Nat) (w:wD) (l:List Nat) (a:oA):Prop:=l=[] \/ ∃g,a=some ⟨g,0,none⟩/\Row w ⟨g,0,none⟩ (l.map (JP κ))
def Mm {e:TypeId} {l:List Nat} {κ:Nat->Nat} (h:Own w 0 e 1 v l.length (l.map (JP κ))):∃a c,v = .slice a l.length c/\Ptrs κ w l a:=by
 rcases h.row with ⟨rfl,G,-⟩|⟨g,cap,rfl,-,N,M⟩
 . exact ⟨none,0,by rw [G],gq (List.length_eq_zero_iff.1 G)⟩
 . exact ⟨_,cap,rfl,gt ⟨g,rfl,M⟩⟩
def Ptrs.get {κ:Nat->Nat} {l:List Nat} {a:oA} (h:Ptrs κ w l a) {i c:Nat} (G:l[i]? = some c):∃g,a=some ⟨g,0,none⟩/\Row w ⟨g,0+i*1,none⟩ [JP κ c]:=by
 rcases h with rfl|⟨g,rfl,O⟩
 . simp at G
 . refine ⟨g,rfl,?_⟩;have:=O.sub (i*1) 1;rw [Nat.mul_one] at this ⊢;have M:i<l.length:=by
    rcases gK i l.length with N|N
    . exact N
    . rw [gG N] at G;cases G
   have e:((l.map (JP κ)).drop i).take 1=[JP κ c]:=by
    rw [gW (by simpa using M)];have:l[i]=c:=by rw [gm M] at G;exact gB G
    simp [this]
   rw [e] at this;exact this
def CE (l:List VD) (s:lB):Int:=match Ct s l with
 | some i=>(i:Int)
 | none=> -1
def Mn (s:lB) (v:VD):∀l:List VD,Ct s (l++[v])=if v.name=s then some l.length else Ct s l
 | []=>by simp only [List.nil_append,Ct,hH]
 | u::r=>by
  rw [List.cons_append];unfold Ct;rw [Mn s v r];by_cases h:v.name=s
  . simp [h]
  . simp [h]
def QH {j:Nat} (G:j<l.length) (s:lB):CE (l.take (j+1)) s=if l[j].name=s then (j:Int) else CE (l.take j) s:=by
 have e:l.take (j+1)=l.take j++[l[j]]:=by rw [List.take_add_one,gm G];rfl
 unfold CE;rw [e,Mn];by_cases h:l[j].name=s
 . rw [AQ h,AQ h];simp;omega
 . rw [AB h,AB h]
def Mo (l:List VD) (hl:l.length<=1000000) (s:lB) (S:nP) (a:oA) (c:Nat) (vc Z:Value) (O U:Nat) (w:wD) (hr:Row w ⟨O,U,none⟩ [.slice a l.length c,vc,Z]) (G:VDs S w l a) :
 Calls prog 211 #[.pointer (some ⟨O,U,none⟩),str s] w λe w'=>e = .returned (.int .i64 (CE l s))/\Ext w w':=by
 have X:=iK w;have G:=G.ltV;refine Ad func211 ntmps211 rfl rfl (eK ?_);refine C1 (AK rfl rfl (gz _ Ab)) (C1 Pa (cT ?_));refine As ?_;refine AG (ι:=Nat) (λj=>[(0,.pointer (some ⟨O,U,none⟩)),(1,str s),(5,.int .i64 ((j:Int)-1))])
  (λj w'=>j<=l.length/\VDs (· < w.heap.size) w' l a/\Row w' ⟨O,U,none⟩ [.slice a l.length c,vc,Z]/\Ext w w'/\CE l s=CE (l.take j) s)
  (λj=>j) l.length sB ⟨gI _,G,hr,X,by rw [gF]⟩ ?_
 clear G hr X;rintro j w1 ⟨hj,G,hb,X,M⟩;cases j with
 | zero=>
  have e0:CE l s = -1:=by rw [M];rfl
  rw [e0];refine kR ?_;exact ⟨rfl,X⟩
 | succ j=>
  have N:j<l.length:=by omega
  obtain ⟨kb,ko,rfl,kS,h⟩:=G.get (by intro e;subst e;simp at N);have r0:=h j l[j] (gm N);rw [QH N s] at M;clear h;generalize l[j]=v at *;have V:(((j+1:Nat):Int)-1)=(j:Int):=by omega
  obtain ⟨vn,vk,vl⟩:=v;replace r0:Row w1 ⟨kb,ko+j*3,none⟩ [str vn,.int .u8 vk,.int .i64 vl]:=r0;dsimp only at M;rw [V]
  focus
   refine eK ?_;refine Ay rfl (λY=>?_) (λY=>?_);refine kR ?_;rotate_left;refine eK ?_;refine C1 (AK rfl rfl (gz _ Ab)) (C1 Pa (Ak ?_));rotate_left
  . rw [AQ Af] at M;rw [M];exact ⟨rfl,X⟩
  . rw [AB Af] at M;exact Aw j sB ⟨Ab,G,hb,X,M⟩ Ab
def Ey (G M n sb:Nat) (N:n<=1000) (w:wD) (h:CurP w sb G M n) :
 Calls prog 210 #[.pointer (some ⟨sb,0,none⟩)] w λe w'=>e = .returned (.pointer (some ⟨G,M,none⟩))/\Ext w w':=by
 have X:=iK w;obtain ⟨x,y,z,a,c,O,U,⟨rfl,rfl,rfl⟩|⟨V,rfl,rfl⟩⟩:=h
 . refine Ad func210 ntmps210 rfl rfl ?_;refine kR ?_;exact ⟨rfl,X⟩
 . refine Ad func210 ntmps210 rfl rfl ?_;refine eK ?_;refine C1 (AK rfl rfl (gz _ Ab)) (kR ?_);refine ⟨?_,X⟩;rw [show (0+((n:Int)-1).toNat*3)=(n-1)*3 by omega]
def Y6 (k:Int) (w:wD):Calls prog 222 #[.int .u8 k] w λe w'=>e = .returned (.int .u8 (CQ k))/\Ext w w':=by
 have X:=iK w;refine Ad func222 ntmps222 rfl rfl ?_
 focus
  refine eK ?_;refine Ay rfl (λh=>?_) (λh=>?_);refine kR ?_;rotate_left;refine eK ?_;refine Ay rfl (λG=>?_) (λG=>?_);refine kR ?_;rotate_left;refine eK ?_;refine Ay rfl (λM=>?_) (λM=>?_);refine kR ?_;rotate_left;refine eK ?_;refine Ay rfl (λN=>?_) (λN=>?_);refine kR ?_;rotate_left;refine eK ?_;refine Ay rfl (λO=>?_) (λO=>?_);refine kR ?_;rotate_left;refine eK ?_;refine Ay rfl (λU=>?_) (λU=>?_);refine kR ?_;rotate_left;refine kR ?_;rotate_left
 all_goals (refine ⟨?_,X⟩;unfold CQ)
 . rw [AQ Ab]
 . rw [AB Ab,AQ Ab]
 . rw [AB Ab,AB Ab,AQ Ab]
 . rw [AB Ab,AB Ab,AQ Ab]
 . rw [AB Ab,AB Ab,AQ Ab]
 . rw [AB Ab,AB Ab,AQ Ab]
 . rw [AB Ab,AB Ab,AB Ab]
section
variable {ρ:Nat->Rl} {κ:Nat->Nat} {K:List (Int×Int)} {m sb:Nat} {st:Stp} {w:wD}
def Ez {st:Stp} {c:Nat} (h:c<st.heap.length):st.heap[c]? = some (st.items c):=by
 unfold jq;rw [gY,gm h];rfl
def UX (h:Ct s st.cur.vars=none):st.look s=none:=by unfold Stp.look Frm.cell;rw [h];rfl
def UY {i c:Nat} (h:Ct s st.cur.vars=some i) (G:st.cur.cells[i]? = some c):st.look s=some (st.items c)/\st.cellD s=c:=by
 have e:st.cur.cell s=some c:=by unfold Frm.cell;rw [h];simpa using G
 exact ⟨by unfold Stp.look;rw [e];rfl,by unfold Stp.cellD;rw [e];rfl⟩
def StoreAt.at (h:StoreAt ρ κ w sb st) (O:st.WF K m) {i:Nat} (V:Ct s st.cur.vars=some i):∃c M N,st.cur.cells[i]? = some c/\c<st.heap.length/\st.look s=some (st.items c)/\st.cellD s=c/\Blk w (κ c) [.slice M (st.items c).length N]/\OwnR ρ (.items c) w (.slice M (st.items c).length N) (st.items c)/\ρ (κ c) = .cell c:=by
 have U:=Gq V;have G:i<st.cur.cells.length:=by rw [<-O.cur.len];exact U
 have X:=gm G;obtain ⟨e1,e2⟩:=UY V X;have Y:st.cur.cells[i]<st.heap.length:=by rw [O.len];exact O.cur.lt (gA G)
 obtain ⟨h1,v,h2,Z⟩:=h.cells _ _ (Ez Y);obtain ⟨M,N,rfl⟩:=Z.1.shape;exact ⟨_,M,N,X,Y,e1,e2,h2,Z,h1⟩
def QI (Y:st.WF K m) (hm:m<=1000000) (s:lB) (w:wD) (h:StoreAt ρ κ w sb st) :
 Calls prog 224 #[.pointer (some ⟨sb,0,none⟩),str s] w (LookR ((st.look s).getD []) (st.look s).isSome w):=by
 have X:=iK w;have ae:=Y.curm;have af:=Y.nc;obtain ⟨fb,fo,pre,post,T,vv,vc,ag,-,M,hf,-⟩:=h.open;obtain ⟨av,cv,rfl,O⟩:=GV (S:=λ_=>True) hf.v.1 (λ_ _=>trivial);obtain ⟨ac,cc,rfl,V⟩:=Mm hf.c.1;have G:=M.blk;have HC:=gp (λw1 h=>Ey fb fo st.calls.length sb Ab w1 h);cases hl:Ct s st.cur.vars with
 | none=>
  have U:=λw1 h1 h2=>Mo st.cur.vars Ab s (λ_=>True) av cv (.slice ac st.cur.cells.length cc) (.int .i64 st.cur.locals) fb fo w1 h1 h2
  rw [show CE st.cur.vars s = -1 by unfold CE;rw [hl]] at U;have U:=gp U;rw [UX hl];clear h hf M V Y;generalize st.cur.cells.length=n2 at *;generalize st.cur.vars=vs at *;generalize st.calls.length=nc at *;refine Ad func224 ntmps224 rfl rfl (kC (HC.out _ Af) ?_);rintro _ w2 ⟨⟨⟩,x1⟩;revert X O G;refine eE x1 ?_;intro X O G;refine kC (U.out _ Af Af) ?_;rintro _ w5 ⟨⟨⟩,x4⟩;have X:=X.ext x4;refine kT ?_;exact ⟨none,0,rfl,gq rfl,AN,X⟩
 | some i=>
  have U:=λw1 h1 h2=>Mo st.cur.vars Ab s (λ_=>True) av cv (.slice ac st.cur.cells.length cc) (.int .i64 st.cur.locals) fb fo w1 h1 h2
  rw [show CE st.cur.vars s=(i:Int) by unfold CE;rw [hl]] at U;have U:=gp U;obtain ⟨c,a',c',e1,e2,e3,e4,hb,ho,-⟩:=h.at Y hl;have aa:=Y.look_le e3;obtain ⟨g,rfl,r1⟩:=V.get e1;have ah:i<st.cur.cells.length:=by
   rcases gK i st.cur.cells.length with h'|h'
   . exact h'
   . rw [gG h'] at e1;cases e1
  have Z:Row w ⟨g,0+(i:Int).toNat*1,none⟩ [JP κ c]:=r1;have N:=ho.1.at;rw [e3];clear h hf M V Y r1 ho e1 e2 e3 e4;unfold JP at Z;generalize κ c=cb at *;generalize st.items c=xs at *;generalize st.cur.cells.length=n2 at *;generalize st.cur.vars=vs at *;generalize st.calls.length=nc at *;refine Ad func224 ntmps224 rfl rfl (kC (HC.out _ Af) ?_);rintro _ ai ⟨⟨⟩,ab⟩;revert X Z N hb O G;refine eE ab ?_;intro X Z N hb O G;refine kC (U.out _ Af Af) ?_;rintro _ aj ⟨⟨⟩,ad⟩;revert X Z N hb G;refine eE ad ?_;intro X Z N hb G;refine eK ?_;refine C1 (Pw G) (kT ?_);exact ⟨_,_,rfl,N,aa,X⟩
def aR (M:st.WF K m) (N:m<=1000000) (s:lB) (w:wD) (h:StoreAt ρ κ w sb st) :
 Calls prog 220 #[.pointer (some ⟨sb,0,none⟩),str s] w (LookR ((st.look s).getD []) (st.look s).isSome w):=by
 have X:=iK w;have O:=gp (QI M N s w h);clear h M;generalize (st.look s).isSome=q at *;generalize (st.look s).getD []=xs at *;refine Ad func220 ntmps220 rfl rfl (eK ?_);refine C1 (A0 Ac rfl rfl) (kQ (O.out) ?_);rintro _ w6 ⟨a1,c2,⟨⟩,h3,h4,U⟩;have X:=X.ext U;refine kQ (Fo xs Ab _ _ _ Af) ?_;rintro _ V ⟨a8,c9,⟨⟩,Y,Z,G⟩;have X:=X.ext G;refine kT ?_;exact ⟨_,_,rfl,OwnI.at Af,Ab,X⟩
def Mp (Z:st.WF K m) (hm:m<=1000000) (s:lB) {i:Nat} (hl:Ct s st.cur.vars=some i) (w:wD) (h:StoreAt ρ κ w sb st) :
 Calls prog 225 #[.pointer (some ⟨sb,0,none⟩),str s] w λe w'=>e = .returned (.pointer (some ⟨κ (st.cellD s),0,none⟩))/\Ext w w':=by
 have X:=iK w;have aa:=Z.curm;have ab:=Z.nc;obtain ⟨fb,fo,pre,post,T,vv,vc,ad,-,U,hf,-⟩:=h.open;obtain ⟨av,cv,rfl,N⟩:=GV (S:=λ_=>True) hf.v.1 (λ_ _=>trivial);obtain ⟨ac,cc,rfl,Y⟩:=Mm hf.c.1;have G:=U.blk;have HC:=gp (λw1 h=>Ey fb fo st.calls.length sb Ab w1 h);have hF:=λw1 h1 h2=>Mo st.cur.vars Ab s (λ_=>True) av cv (.slice ac st.cur.cells.length cc) (.int .i64 st.cur.locals) fb fo w1 h1 h2
 rw [show CE st.cur.vars s=(i:Int) by unfold CE;rw [hl]] at hF;have hF:=gp hF;obtain ⟨c,a',c',e1,e2,e3,e4,-⟩:=h.at Z hl;obtain ⟨g,rfl,r1⟩:=Y.get e1;have ae:i<st.cur.cells.length:=by
  rcases gK i st.cur.cells.length with h'|h'
  . exact h'
  . rw [gG h'] at e1;cases e1
 have V:Row w ⟨g,0+(i:Int).toNat*1,none⟩ [JP κ c]:=r1;rw [e4];clear h hf U Y Z r1 e1 e2 e3 e4;unfold JP at V;generalize κ c=cb at *;generalize st.cur.cells.length=n2 at *;generalize st.cur.vars=vs at *;generalize st.calls.length=nc at *;refine Ad func225 ntmps225 rfl rfl (kC (HC.out _ Af) ?_);rintro _ w2 ⟨⟨⟩,x1⟩;revert X V N G;refine eE x1 ?_;intro X V N G;refine eK ?_;refine Aq (λwz=>Ext w2 wz) 7 (.pure 0 (.pure 1 (.pure 2 (.pure 3 (.pure 4 (.pure 5 (.fork 6 .tail .none))))))) mixed AT (Aa Ag) ?_;intro w4 x5 _;have M:(λwz=>Ext w2 wz) w4:=x5;simp only at M;have O:=G;revert X V N G;refine eE x5 ?_;intro X V N G;refine ⟨M,?_⟩;refine eT ?_;refine Tq rfl (Dr O) (Tq rfl Mv (Tq rfl Mv (tC rfl rfl (hF.out _ Af Af) ?_)));rintro _ af ⟨⟨⟩,x9⟩;revert M X V;refine eE x9 ?_;intro M X V;refine ⟨M,?_⟩;refine At rfl (kR ?_);exact ⟨rfl,X⟩
end
def Y7 (vs:List VD) (hv:vs.length<=1000000) (av:oA) (cv:Nat) (vc nl:Value) (fb fo:Nat) (N:Nat):∀(t:Nd) (S S':nP) (a:oA) (c:Nat) (w:wD),t.size<N->t.size<=1000000000->t.sits S w a->Row w ⟨fb,fo,none⟩ [.slice av vs.length cv,vc,nl]->VDs S' w vs av ->
 Calls prog 216 #[.pointer (some ⟨fb,fo,none⟩),t.val a c] w λe w'=>e = .returned (.int .i64 (t.bad vs))/\Ext w w':=by
 induction N with
 | zero=>intro t S S' a c w h;omega
 | succ N ih=>
  rintro ⟨k,n,s,l⟩ S S' a c w hN hM O U M;have IH:=gp ih;clear ih;simp only [Nd.sits] at O;simp only [Nd.size] at hN hM;have X:=iK w;have hl:=Cm l;have O:=B6 _ _ O;have M:=M.ltV;have bk:fb<w.heap.size:=Cg (U.at0 rfl);have HF:=gp (λw1 h1=>Ow vs hv s (· < w.heap.size) av cv w1 h1);rw [Nd.bad];change Calls prog _ #[.pointer (some ⟨fb,fo,none⟩),.agg #[.int .u8 k,.int .i64 n,str s,.slice a l.length c]] w _;generalize hq:(D8 vs s).isSome=q at HF;generalize hz:(D8 vs s).getD Wr=z at HF;obtain ⟨zn,zk,zl⟩:=z;have hu:FC vs s (CQ k)=if q=false then 6 else if zk=CQ k then 0 else 7:=by
   unfold FC;cases hf:D8 vs s with
   | none=>rw [hf] at hq;subst hq;rfl
   | some v=>rw [hf] at hq hz;subst hq;simp only [Option.getD_some] at hz;rw [hz];rfl
  rw [hu];clear hq hz hu;generalize hn:CQ k=nk at *;have HN:=Y6 k;rw [hn] at HN;have HN:=gp HN;refine Ad func216 ntmps216 rfl rfl (cS (eB [_,_,_,_] ?_));intro b1 w2 V x5 p6 z7;revert U X O M;refine eE x5 ?_;intro U X O M;refine kC (HN.out _) ?_;rintro _ w9 ⟨⟨⟩,x8⟩;revert V U X O M;refine eY x8 ?_;intro bl V U X O M;refine C1 Pa (cT ?_);refine Dv (ι:=Unit) (λ_=>[(0,.pointer (some ⟨fb,fo,none⟩)),(3,.pointer (some ⟨b1,0,none⟩))]) (λ_ w'=>Row w' ⟨fb,fo,none⟩ [.slice av vs.length cv,vc,nl]/\VDs (· < w.heap.size) w' vs av/\rowSits (· < w.heap.size) w' l a/\Blk w' b1 [.int .u8 k,.int .i64 n,str s,.slice a l.length c]/\Ext w w' /\ ¬(nk≠0/\(if q=false then (6:Int) else if zk=nk then 0 else 7)≠0)) ?_ ?_
  . focus
     refine eK ?_;refine BN rfl (λay=>?_) (λay=>?_);refine Aj (Aq (λwz=>Ext w9 wz) 12 (.pure 0 (.pure 1 (.pure 2 (.pure 3 (.pure 4 (.pure 5 (.fork 6 (.pure 7 (.pure 8 (.pure 9 (.fork 10 (.fork 11 .tail .none) .none)))) (.fork 10 (.fork 6 (.pure 7 (.pure 8 (.pure 9 (.fork 11 .tail .none)))) .none) .none)))))))) mixed AT (Aa (Aa Ag)) ?_);intro az ah _;have G:(λwz=>Ext w9 wz) az:=ah;simp only at G;have ai:=V;have aj:=U;revert V U X O M;refine eY ah ?_;intro bm V U X O M;refine ⟨G,?_⟩;refine eT ?_;refine Tq rfl (Ap Ac rfl rfl rfl (λwz hz=>iT (iN aj hz) rfl)) (Tq rfl Pf (Tq rfl (Db ai) (AE rfl (AR AT rfl (HF.out _ Af) (λ_ _ h=>⟨_,h.1⟩)) rfl ?_ aFh ?kra6)));rintro _ bn ⟨⟨⟩,a0⟩;revert G V U X O M;refine eY a0 ?_;intro bo G V U X O M;refine ⟨G,?_⟩;refine eT ?_;refine AE rfl (Bb Cs rfl) rfl ?_ aFh AD;rintro _ a5 ⟨a6,rfl,Z⟩;have ae:=Z.blk;dsimp only at ae;have ak:=Z.ext;have a7:=Z.pos;have a8:=Z.size;revert G V U X O M;refine eE ak ?_;intro G V U X O M;refine ⟨G,?_⟩;refine De [_,_,_] [_,_,_] rfl Ac rfl rfl rfl rfl rfl rfl ae rfl rfl ?_ AD;intro a9 ac;have ba:=ac.blk;have al:=ac.fr;have bb:=ac.size;revert G V U X O M;refine eF al ?_;intro G V U X O M;refine ⟨G,?_⟩;refine At rfl (C1 Pa (cT (Aj (cS (C1 Mv (C1 Pt (cT (I9 rfl (λam=>?_) (λam=>?_)))))))));refine kR ?_;rotate_left;refine eK ?_;refine BN rfl (λan=>?_) (λan=>?_);refine kR ?_;rotate_left;refine Ao ?_;rotate_left;refine AE rfl (Bb Cs rfl) rfl ?_ aFh AD;rintro _ bc ⟨bd,rfl,aa⟩;have ab:=aa.blk;dsimp only at ab;have ao:=aa.ext;have be:=aa.pos;have bf:=aa.size;revert G V U X O M;refine eE ao ?_;intro G V U X O M;refine ⟨G,?_⟩;refine tC rfl rfl (HF.out _ Af) ?_;rintro _ bg ⟨⟨⟩,ap⟩;revert ab G V U X O M;refine eE ap ?_;intro ab G V U X O M;refine ⟨G,?_⟩;refine eT ?_;refine De [_,_,_] [_,_,_] rfl Ac rfl rfl rfl rfl rfl rfl ab rfl rfl ?_ AD;intro bh af;have bi:=af.blk;have aq:=af.fr;revert G V U X O M;refine eF aq ?_;intro G V U X O M;refine ⟨G,?_⟩
     refine At rfl (C1 Pa (cT (Aj (cS (C1 Mv (C1 Pt (cT (I9 rfl (λar=>?_) (λar=>?_)))))))));refine kR ?_;rotate_left;refine eK ?_;refine BN rfl (λau=>?_) (λau=>?_);refine kR ?_;rotate_left;refine Ao ?_;rotate_left;refine Ao ?_;rotate_left
    all_goals first
     | exact ⟨by rw [AQ (show q=false by assumption),AQ ⟨Af,CH⟩],X⟩
     | exact ⟨by rw [AB (show ¬q=false by simp [*]),AB (show ¬zk=nk by assumption),AQ ⟨Af,CH⟩],X⟩
     | exact BS () sB ⟨Af,Af,Af,Af,X,λh=>h.1 Af⟩
     | exact BS () sB ⟨Af,Af,Af,Af,X,λh=>h.2 (by rw [AB (show ¬q=false by simp [*]),AQ (show zk=nk by assumption)])⟩
  clear O U M X HF HN;rintro-w1 ⟨U,M,O,hb,X,aw⟩;rw [AB aw];clear aw hn;refine Aj (cS (C1 Pf (C1 (Pl hb) (C1 Pz (C1 Mv (cT ?_))))));clear V hb;refine As ?_;refine AG (ι:=Nat) (λj=>[(0,.pointer (some ⟨fb,fo,none⟩)),(33,.slice a l.length c),(34,.int .i64 l.length),(35,.int .i64 j)])
   (λj w'=>j<=l.length/\Row w' ⟨fb,fo,none⟩ [.slice av vs.length cv,vc,nl]/\VDs (· < w.heap.size) w' vs av/\rowSits (· < w.heap.size) w' l a/\Ext w w'/\EY vs l=EY vs (l.drop j))
   (λj=>l.length-j) 0 sB ⟨gC _,U,M,O,X,rfl⟩ ?_
  clear U M O X;rintro j w1 ⟨hj,U,M,O,X,Y⟩;by_cases ad:j<l.length
  . obtain ⟨kb,ko,rfl,bp,ag⟩:=BI O (by intro e;subst e;simp at ad);obtain ⟨xa,xc,rx,sx⟩:=ag j l[j] (gm ad);have bq:=D6 (gA ad);rw [gW ad,EY] at Y;clear ag;generalize l[j]=x at *;have HX:=gp (IH.out x (· < w.heap.size) (· < w.heap.size) xa xc);generalize a1:x.bad vs=xb at *;obtain ⟨xk,xn,xs,xl⟩:=x;replace rx:Row w1 ⟨kb,ko+j*4,none⟩ [.int .u8 xk,.int .i64 xn,str xs,.slice xa xl.length xc]:=rx;clear a1
    focus
     refine eK ?_;refine xA [_,_,_,_] ?_;intro br bs a2;refine eI [_,_,_,_] a2 ?_;intro bt bu a3 _ _;revert U M X O sx;refine eE a3 ?_;intro U M X O sx;refine kC (HX.out _ Ab Ab Af Af Af) ?_;rintro _ bj ⟨⟨⟩,a4⟩;revert U M X O;refine eE a4 ?_;intro U M X O;refine eK ?_;refine BN rfl (λax=>?_) (λax=>?_);refine kR ?_;rotate_left;refine Ao (Ah (Ai (Al (C1 V7 (C1 Mv (Ak ?_))))));rotate_left
    . exact ⟨by rw [Y,AQ Af],X⟩
    . refine Aw (j+1) sB ⟨Ab,U,M,O,X,?_⟩ Ab;rw [Y,AB (λh=>h Af)]
  . have:j=l.length:=by omega
    subst this;rw [List.drop_length] at Y;rw [Y];refine kR ?_;exact ⟨rfl,X⟩
def Y8 (k:Int) (hk:40<=k/\k<=49) (w:wD):Calls prog 215 #[.int .u8 k] w λe w'=>e = .returned (.bool true)/\Ext w w':=by
 have X:=iK w;refine Ad func215 ntmps215 rfl rfl ?_
 focus
  refine eK ?_;refine Ay rfl (λh=>?_) (λh=>?_);refine kR ?_;rotate_left;refine eK ?_;refine Ay rfl (λG=>?_) (λG=>?_);refine kR ?_;rotate_left;refine eK ?_;refine Ay rfl (λM=>?_) (λM=>?_);refine kR ?_;rotate_left;refine eK ?_;refine Ay rfl (λN=>?_) (λN=>?_);refine kR ?_;rotate_left;refine eK ?_;refine Ay rfl (λO=>?_) (λO=>?_);refine kR ?_;rotate_left;refine eK ?_;refine Ay rfl (λU=>?_) (λU=>?_);refine kR ?_;rotate_left;refine eK ?_;refine Ay rfl (λV=>?_) (λV=>?_);refine kR ?_;rotate_left;refine eK ?_;refine Ay rfl (λY=>?_) (λY=>?_);refine kR ?_;rotate_left;refine eK ?_;refine Ay rfl (λZ=>?_) (λZ=>?_);refine kR ?_;rotate_left;refine kR ?_;rotate_left
 all_goals first
  | exact ⟨rfl,X⟩
  | (exfalso;omega)
def UZ (k:Int) (Z:¬(k=50\/k=51)) (w:wD):Calls prog 214 #[.int .u8 k] w λe w'=>e = .returned (.int .u8 (Ck k))/\Ext w w':=by
 have X:=iK w;refine Ad func214 ntmps214 rfl rfl ?_
 focus
  refine eK ?_;refine Ay rfl (λh=>?_) (λh=>?_);refine kR ?_;rotate_left;refine eK ?_;refine Ay rfl (λG=>?_) (λG=>?_);refine kR ?_;rotate_left;refine eK ?_;refine Ay rfl (λM=>?_) (λM=>?_);refine kR ?_;rotate_left;refine eK ?_;refine Ay rfl (λN=>?_) (λN=>?_);refine kR ?_;rotate_left;refine eK ?_;refine Ay rfl (λO=>?_) (λO=>?_);refine kR ?_;rotate_left;refine eK ?_;refine Ay rfl (λU=>?_) (λU=>?_);refine kR ?_;rotate_left;refine eK ?_;refine Ay rfl (λV=>?_) (λV=>?_);refine kR ?_;rotate_left;refine eK ?_;refine Ay rfl (λY=>?_) (λY=>?_);refine kR ?_;rotate_left;refine kR ?_;rotate_left
 all_goals (refine ⟨?_,X⟩;unfold Ck)
 all_goals first
  | (subst k;rfl)
  | (repeat rw [AB Ab])
def U0 (ρ:Nat->Rl) (w w':wD) (r:Rl):Nat->Rl:=λb=>if w.heap.size<=b/\b<w'.heap.size then r else ρ b
def WO (ρ:Nat->Rl) (w w':wD) (r:Rl):Ro ρ (U0 ρ w w' r) w:=λb h=>AB Ab
def To (ρ:Nat->Rl) (r:Rl) {b:Nat} (h:w.heap.size<=b) (G:b<w'.heap.size):U0 ρ w w' r b=r:=AQ ⟨h,G⟩
def NK {ρ:Nat->Rl} {r:Rl} (h:Fresh ρ w) (G:w.heap.size<=w'.heap.size):Fresh (U0 ρ w w' r) w':=λb M=>by
 unfold U0;rw [AB Ab];exact h b Ab
section
variable {P:Program} {n:Nat} {l:Sl} {w:wD} {tab:Tab} {zt:Ei} {ty:TypeId}
def Fb {y:Operand} {b k m cap:Nat} {sE:Sk} {zs:lV} {cs:lV} {p:Addr} (T:TabOk P tab) (Z:Ch P zt) (ht:Az tab t=some (.slice e,r)) (hE:Az tab e=some (sE,sz)) (hz:Cz zt e=some zs) (hzl:zs.length=sz)
 (hby:Dk P e=true) (hsz:gM 0 sz=true) (hx:ev l x=some v) (hy:ev l y=some (.slice (some p) m cap)) (hown:Own w b e sz v k cs) (hr:Row w p us) (hul:us.length=m*sz) (hu:us.all i6=true) (hkm:k+m<=100000000000) (hm0:0<k+m) (hb:b<=w.heap.size) :
 BD P n l (.call ⟨.builtin .append,#[x,y],#[t,t]⟩) ty w (FV λo w'=> ∃g cap,o = .slice (some ⟨g,0,none⟩) (k+m) cap/\Own w' b e sz (.slice (some ⟨g,0,none⟩) (k+m) cap) (k+m) (cs++us)/\Fr (λk=>v.ownBlock=some k) w w'/\(v.ownBlock=some g\/w.heap.size<=g)/\g<w'.heap.size):=by
 have hd:=DV (P:=P) (n:=n) (l:=l) (ty:=ty) T Z ht hE hz hzl hby hsz hx hy hown hr hul hu hkm hm0 hb;unfold BD at hd ⊢;intro a dst pos after g next Q ha hn c;refine hd a dst pos after g next Q ha (λv' w' hG=>?_) (λw' hG=>hG.elim);obtain ⟨g1,g2,g,cap',g3,g4⟩:=hG;exact hn v' w' ⟨g,cap',g3,g3▸g1,g2,g4,(g1.blk (k:=g) (by rw [g3];rfl)).2⟩
end
section
variable {ρ:Nat->Rl} {κ:Nat->Nat} {j:Nat}
def AddR (ρ:Nat->Rl) (κ:Nat->Nat) (j fb fo:Nat) (pre post:lV) (T:TypeId) (nl:Value) (f:Frm) (w:wD):Ending->wD->Prop:=λe w'=> ∃vv vc ρ',e = .returned (.tuple #[])/\Ro ρ ρ' w/\Fresh ρ' w'/\Win w' fb fo [vv,vc,nl] pre post T/\FrameOk ρ' κ w' j f vv vc/\Fr (Fa ρ j fb) w w'
def AddR.ret {post:lV} {T:TypeId} {N:Value} {f:Frm} {e:Ending} (h:AddR ρ κ j r t us post T N f w e w'):∃v,e = .returned v:=by
 obtain ⟨_,_,_,h,-⟩:=h;exact ⟨_,h⟩
def Tp (f:Frm) (v:VD) (c Z fo:Nat) (pre post:lV) (T:TypeId) (vv vc nl:Value) (w:wD) (hF:FrameOk ρ κ w j f vv vc) (hw:Win w Z fo [vv,vc,nl] pre post T) (hr:ρ Z≠.vars j/\ρ Z≠.cels j) (an:Fresh ρ w) (hv:f.vars.length<=1000000) (hc:f.cells.length<=1000000) :
 Calls prog 158 #[.pointer (some ⟨Z,fo,none⟩),v.val,JP κ c] w (AddR ρ κ j Z fo pre post T nl ⟨f.vars++[v],f.cells++[c],f.locals⟩ w):=by
 obtain ⟨⟨ov,rv⟩,X,rc⟩:=hF;have a1:Z<w.heap.size:=hw.1.blk.lt;have F:=iP (Fa ρ j Z) w;have n1:∀k,vv.ownBlock=some k->ρ k = .vars j/\k<w.heap.size:=λk G=>⟨rv k G,(ov.blk G).2⟩
 have n2:∀k,vc.ownBlock=some k->ρ k = .cels j/\k<w.heap.size:=λk G=>⟨rc k G,(X.blk G).2⟩
 have d1:∀k,vv.ownBlock=some k -> ¬k=Z:=λk G e=>by subst e;exact hr.1 (n1 k G).1
 have d2:∀k,vc.ownBlock=some k -> ¬k=Z:=λk G e=>by subst e;exact hr.2 (n2 k G).1
 have d3:∀k,vc.ownBlock=some k -> ¬vv.ownBlock=some k:=λk G e=>by have:=(n1 k e).1;rw [(n2 k G).1] at this;cases this
 obtain ⟨vn,vk,vl⟩:=v;generalize hN:f.vars.length=N at *;generalize hM:f.cells.length=M at *;generalize hV:f.vars.flatMap VD.cells=V at *;generalize hC:f.cells.map (JP κ)=C at *;change Calls prog _ #[_,.agg #[str vn,.int .u8 vk,.int .i64 vl],.pointer (some ⟨κ c,0,none⟩)] w _;refine Ad func158 ntmps158 rfl rfl ?_;have av:=gp an;clear an;refine cS (eB [_,_,_] ?_);intro b1 w2 h4 x5 p6 z7;revert hw F ov X;refine eE x5 ?_;intro hw F ov X;refine eK ?_;refine Aq (λwz=>Fr ((λk=>vv.ownBlock=some k)) w2 wz) 8 (.pure 0 (.pure 1 (.pure 2 (.pure 3 (.pure 4 (.pure 5 (.fork 6 (.fork 7 .tail .none) .none))))))) mixed AT (Aa Ag) ?_;intro w8 x9 _;have O:(λwz=>Fr ((λk=>vv.ownBlock=some k)) w2 wz) w8:=iM x9;simp only at O;have ao:=h4;have ap:=hw;revert hw F ov X;refine eY x9 ?_;intro a2 hw F ov X;refine ⟨O,?_⟩;refine eT ?_;refine Tq rfl (Ap Ac rfl rfl rfl (λwz hz=>iT (Row.fr (Win.blk ap) hz (λh=>d1 _ h rfl)) rfl)) (Tq rfl (xL [_,_,_] (λwz hz=>(iO ao hz (λh=>by have:=(n1 _ h).2;omega)))) (AE rfl (xS [_,_,_]) rfl ?_ aFh AD));rintro _ ah ⟨a3,rfl,ad,a4⟩;have a5:=ad.blk;have aw:=ad.ext;have a6:=ad.pos;have a7:=ad.size;revert O hw F ov X;refine eE aw ?_;intro O hw F ov X;refine ⟨O,?_⟩;refine AE rfl (Fb Ac Cs rfl rfl rfl rfl AT rfl rfl rfl Af (i7 Af) rfl rfl Ab Ab (gC _)) rfl ?_ aFh AD;rintro _ ai ⟨ae,ax,rfl,U,aa,af,a8⟩
 have a9:=aa.size;have O:=iU O aa (λk G=>gq G);have hw:=Win.fr hw aa (λh=>d1 _ h rfl);have F:=iU F aa (λk G=>gq (gt (gq (n1 k G).1)));clear ov;have X:=i9 X aa (λk G Y=>d3 k G Y);refine ⟨O,?_⟩;refine At rfl (eK ?_);refine A2 (E9 Z fo [_,_,_] Ac rfl rfl rfl rfl rfl rfl Af rfl rfl) (BA ?_);rintro _ ba ⟨ab,aj,bb⟩;have U:=i9 U aj (λk G Y=>by (obtain rfl:=gB (show some ae=some k from G);rcases af with h|h;exact d1 _ h Y;omega));clear hw;have F:=iU F aj (λk G=>gq (gq G));have X:=i9 X aj (λk G Y=>d2 k G Y);refine eK ?_;refine Dh Ac rfl rfl rfl (Win.blk ab) rfl rfl (C1 Mv (Ax (xS [_]) rfl ?_ aFh));rintro _ ak ⟨bc,rfl,ag,bd⟩;have be:=ag.blk;have ay:=ag.ext;have bf:=ag.pos;have bg:=ag.size;revert ab U F X;refine eE ay ?_;intro ab U F X;refine Ax (Fb Ac Cs rfl rfl rfl rfl AT rfl rfl rfl Af (i7 Af) rfl rfl Ab Ab (gC _)) rfl ?_ aFh;rintro _ al ⟨aq,az,rfl,ar,ac,au,bh⟩;have bi:=ac.size;have ab:=Win.fr ab ac (λh=>d2 _ h rfl);have U:=i9 U ac (λk G Y=>by (obtain rfl:=gB (show some ae=some k from G);rcases af with h|h;exact d3 _ Y h;have:=(n2 _ Y).2;omega));have F:=iU F ac (λk G=>gq (gt (gt (n2 k G).1)));clear X ac;refine eK ?_;refine A2 (Cn Z fo 1 [_,_,_] Ac rfl rfl rfl rfl rfl rfl Af rfl rfl) (BA ?_);rintro _ bj ⟨a0,am,bk⟩;have ar:=i9 ar am (λk G Y=>by (obtain rfl:=gB (show some aq=some k from G);rcases au with h|h;exact d2 _ h Y;omega));have U:=i9 U am (λk G Y=>by (obtain rfl:=gB (show some ae=some k from G);rcases af with h|h;exact d1 _ h Y;omega));have F:=iU F am (λk G=>gq (gq G));refine Ak (Bi rfl ?_)
 have e1:∀b,U0 (U0 ρ ah ai (.vars j)) ak al (.cels j) b=if ak.heap.size<=b/\b<al.heap.size then .cels j else if ah.heap.size<=b/\b<ai.heap.size then .vars j else ρ b:=λb=>rfl
 refine ⟨_,_,U0 (U0 ρ ah ai (.vars j)) ak al (.cels j),rfl,λb hb=>?_,λb hb=>?_,a0,⟨⟨?_,λk G=>?_⟩,?_,λk G=>?_⟩,F⟩
 . rw [e1,AB Ab,AB Ab]
 . rw [e1,AB Ab,AB Ab];exact av.out b Ab
 . rw [List.flatMap_append,hV,gO,hN];assumption
 . obtain rfl:=gB (show some ae=some k from G);rw [e1];rcases af with h|h
   . have:=(n1 _ h).2;rw [AB Ab,AB Ab];exact (n1 _ h).1
   . rw [AB Ab,AQ Ab]
 . rw [List.map_append,hC,gO,hM];assumption
 . obtain rfl:=gB (show some aq=some k from G);rw [e1];rcases au with h|h
   . have:=(n2 _ h).2;rw [AB Ab,AB Ab];exact (n2 _ h).1
   . rw [AQ Ab]
end
def OJ (ops:Array Oper) (wr:List Nat) (i:Nat):Prop:= ∀(listed:Array Bool) (j:Nat) (o:Oper),DC ops listed->listed.getD j true=false->wr.contains j=true->ops[j]? = some o->(∀e∈o.after,iw .any e=true->listed.getD e.on false=true)->listed.getD i false=true
def OK (ops:Array Oper) (E wr:List Nat) (j0:Nat):Bool:=(E.all λi=>gM i ops.size&&(List.range' (i+1) (ops.size-(i+1))).any λm=>(iA m j0||E.contains m)&&Ja ops m i)&&wr.all λj=>iA j j0||Ja ops j j0
def Mq {ops:Array Oper} {E wr:List Nat} (h:OK ops E wr r=true) {i:Nat} (hE:E.contains i=true):OJ ops wr i:=by
 simp only [OK,gu,List.all_eq_true] at h;obtain ⟨h1,h2⟩:=h;intro G j o V ag hj ho N;have M:=h2 j (by simpa using hj);simp only [Bool.or_eq_true] at M;have O:∀o0,ops[r]? = some o0 -> ∀e∈o0.after,iw .any e=true->G.getD e.on false=true:=by
  intro o0 U;rcases M with M|M
  . have ac:=ip M;subst ac;rw [ho] at U;obtain rfl:=gB U;exact N
  . obtain ⟨oj,e',X,ad,ae,Y⟩:=Em M;rw [ho] at X;obtain rfl:=gB X;have hl:=N e' ad ae;rw [Y] at hl;exact V r o0 U hl
 have key:∀d i,ops.size-i<=d->E.contains i=true->G.getD i false=true:=by
  intro d
  induction d with
  | zero=>
   intro i hd hi;have:=gS (h1 i (by simpa using hi)).1;omega
  | succ d ih=>
   intro i hd hi;have hg:=h1 i (by simpa using hi);simp only [List.any_eq_true,List.mem_range'_1,gu,Bool.or_eq_true] at hg;obtain ⟨-,m,hm,Z,hw⟩:=hg;obtain ⟨om,e,aa,he,hb,ab⟩:=Em hw;rcases Z with Z|Z
   . have af:=ip Z;subst af;have:=O om aa e he hb;rwa [ab] at this
   . have hl:=ih m Ab Z;have:=V m om aa hl e he hb;rwa [ab] at this
 exact key _ i (gI _) hE
section
variable {P:Program} {ops:Array Oper} {Q:Exit->Act->wD->Prop} {S S2:wD->Prop} {E wr:List Nat} {K:Nat}
def Kg (P:Program) (ops:Array Oper) (Q:Exit->Act->wD->Prop) (S S2:wD->Prop) (wr:List Nat) (K:Nat):Nat->Array Bool->Act->wD->Prop
 | 0,listed,a,w=>gQ .any ops listed=[]/\Q .normal a w
 | fuel+1,listed,a,w=>
  (gQ .any ops listed=[]->Q .normal a w) /\
  ∀i∈gQ .any ops listed,wpOp P ops Q i (λa' w'=>(wr.contains i=false->(S w->S w')/\(S2 w->S2 w'))/\(wr.contains i=true->i<K->S2 w')/\Kg P ops Q S S2 wr K fuel (listed.setIfInBounds i true) a' w') a w
def Mr:∀(G:Nat) (M:Array Bool) (a:Act) (w:wD),Kg P ops Q S S2 wr K G M a w->wpAny P .any ops Q G M a w
 | 0,_,_,_,h=>h
 | G+1,_,_,_,h=>⟨h.1,λi N=>wpOp_mono (λO w' U=>Mr G _ O w' U.2.2) (h.2 i N)⟩
def JE {i:Nat} {oi:Oper} {T:wD->Prop} (hi:ops[i]? = some oi) (hT:(OJ ops wr i/\T=S)\/(D7 ops K i/\T=S2)) (ae:wr.contains i=false) (ab:∀(j:Nat) (o:Oper) cs b,ops[j]? = some o->o.op≠.select cs b)
 (hQ:∀c a w,Q (.panic c) (a.put oi.dst v) w->Q (.panic c) a w) :
 ∀(M:Nat) (G:Array Bool) (a:Act) (w:wD),DC ops G ->
  (∀j Z,ops[j]? = some Z->j≠i->G.getD j true=false->(∀e∈Z.after,iw .any e=true->e.on≠i)->oi.apart ops Z=true) ->
  i∈gQ .any ops G->YieldsIf P ops T oi v a->T w ->
  Kg P ops Q S S2 wr K M (G.setIfInBounds i true) (a.put oi.dst v) w->Kg P ops Q S S2 wr K (M+1) G a w:=by
 intro M
 induction M with
 | zero=>
  intro G a w _ _ hr hy hS H;refine ⟨λh=>(by rw [h] at hr;cases hr),λj hj=>?_⟩;by_cases N:j=i
  . subst N;exact hy.wpOp hi hS ⟨λ_=>⟨id,id⟩,λe=>(by rw [ae] at e;cases e),H⟩
  . have:=ready_mono hj N;rw [H.1] at this;cases this
 | succ M ih=>
  intro G a w ac U hr hy hS H;refine ⟨λh=>(by rw [h] at hr;cases hr),λj hj=>?_⟩;by_cases N:j=i
  . subst N;exact hy.wpOp hi hS ⟨λ_=>⟨id,id⟩,λe=>(by rw [ae] at e;cases e),H⟩
  . have h1:=H.2 j (ready_mono hj N);obtain ⟨V,Z,X,Y⟩:=mem_ready.1 hj;have O:¬G.getD i false=true:=λhc=>by
     have h0:=(mem_ready.1 hr).1;rcases gK i G.size with h'|h'
     . simp [h'] at h0 hc;rw [h0] at hc;cases hc
     . simp [iv h'] at hc
    have ah:∀w',(wr.contains j=false->(S w->S w')/\(S2 w->S2 w'))->(wr.contains j=true->j<K->S2 w')->T w':=λw' h' h2=>by
     rcases hT with ⟨ad,rfl⟩|⟨ad,rfl⟩
     . cases hej:wr.contains j
       . exact (h' hej).1 hS
       . exact absurd (ad G j Z ac V hej X Y) O
     . cases hej:wr.contains j
       . exact (h' hej).2 hS
       . rcases gK j K with h|h
         . exact h2 hej h
         . exact absurd (ad G j Z ac h X Y) O
    have af:∀e∈Z.after,iw .any e=true->e.on≠i:=λe he hb ai=>O (ai▸Y e he hb)
    have h2:=wpOp_putIf X (U j Z X N V af) (λcs b=>ab i oi cs b hi) (λcs b=>ab j Z cs b X) hQ hy h1;have aa:∀k ok,ops[k]? = some ok->k≠i->(G.setIfInBounds j true).getD k true=false ->
     (∀e∈ok.after,iw .any e=true->e.on≠i)->oi.apart ops ok=true:=λk ok hk aj O ak=>by
     refine U k ok hk aj ?_ ak;by_cases ag:j=k
     . subst ag;exact V
     . rw [getD_set_ne true ag] at O;exact O
    refine wpOp_mono (λa' w' h3=>⟨h3.2.1,h3.2.2.1,ih (G.setIfInBounds j true) a' w' (ac.set hj) aa (ready_mono hr (Ne.symm N)) h3.1 (ah w' h3.2.1 h3.2.2.1) ?_⟩) h2;rw [Array.setIfInBounds_comm _ _ N];exact h3.2.2.2
end
def ScE.okW (ops:Array Oper) (E wr:List Nat) (K:Nat):ScE->Nat->Array Bool->Bool
 | .done,_,listed=>(gQ .any ops listed).isEmpty
 | .pure i r,f+1,listed=>E.contains i && !(wr.contains i)&&(gQ .any ops listed).contains i&&Region.free .any ops listed i&&ScE.okW ops E wr K r f (listed.setIfInBounds i true)
 | .free i r,f+1,listed=> !(wr.contains i)&&gM i K&&(gQ .any ops listed).contains i&&Region.free .any ops listed i&&ScE.okW ops E wr K r f (listed.setIfInBounds i true)
 | .put i r,f+1,listed=>wr.contains i&&(gQ .any ops listed==[i])&&ScE.okW ops E wr K r f (listed.setIfInBounds i true)
 | .tail k,f,listed=>iy K k&&iA (f+k) ops.size&&(List.range' k f).all (λj=>wr.contains j)&&E1 ops f k listed
 | _,_,_=>false
def I0 {P:Program} {ops:Array Oper} {Q:Exit->Act->wD->Prop} {S S2:wD->Prop} {wr:List Nat} {K:Nat}:∀(f k:Nat) (G:Array Bool) (a:Act) (w:wD),K<=k->f+k=ops.size->(∀j,k<=j->j<k+f->wr.contains j=true)->E1 ops f k G=true->wpList P ops Q (ops.toList.drop k) a w->Kg P ops Q S S2 wr K f G a w
 | 0,k,G,a,w,Z,hf,O,M,h=>by
  have:ops.toList.drop k=[]:=List.drop_eq_nil_of_le (by simp;omega);rw [this] at h;exact ⟨by simpa [E1] using M,h⟩
 | f+1,k,G,a,w,Z,hf,O,M,h=>by
  simp only [E1,gu,beq_iff_eq] at M;have U:k<ops.toList.length:=by simp;omega
  rw [gW U] at h;refine ⟨λe=>absurd (M.1.symm.trans e) AN,λi V=>?_⟩;rw [M.1] at V;simp only [ia] at V;subst V;have Y:=O i (gI _) Ab;have N:∀j,i+1<=j->j<i+1+f->wr.contains j=true:=λj h1 h2=>O j Ab Ab
  have ho:ops[i]? = some ops.toList[i]:=by simp
  unfold wpList at h;unfold wpOp;rw [ho];simp only;split
  . rename_i X;rw [AQ X] at h;rcases h with h|h
    . exact gq (Oper.wp_mono (λa' w' h'=>⟨λe=>(by rw [Y] at e;cases e),λ_ e=>by omega,I0 f (i+1) _ a' w' Ab Ab N M.2 h'⟩) h)
    . exact gt h
  . rename_i X;rw [AB X] at h;exact ⟨λe=>(by rw [Y] at e;cases e),λ_ e=>by omega,I0 f (i+1) _ _ w Ab Ab N M.2 h⟩
def HTE.anyW {P:Program} {ops:Array Oper} {Q:Exit->Act->wD->Prop} {S S2:wD->Prop} {E wr:List Nat} {K:Nat} (O:∀i,i<K->D7 ops K i) (Y:Region.noSelect ops=true) (V:∀i,E.contains i=true->OJ ops wr i) (Z:C5 Q) :
 ∀(s:ScE) (f:Nat) (G:Array Bool) (a:Act) (w:wD),DC ops G->HTE P ops Q S S2 s a w->ScE.okW ops E wr K s f G=true->Kg P ops Q S S2 wr K f G a w
 | .done,f,G,a,w,U,h,M=>by
  have X:gQ .any ops G=[]:=by simpa [ScE.okW] using M
  cases f with
  | zero=>exact ⟨X,h⟩
  | succ f=>exact ⟨λ_=>h,by rw [X];simp⟩
 | .tail k,f,G,a,w,U,h,M=>by
  simp only [ScE.okW,gu,List.all_eq_true,List.mem_range'_1] at M;exact I0 f k G a w (gS M.1.1.1) (ip M.1.1.2) (λj h1 h2=>M.1.2 j ⟨h1,h2⟩) M.2 h
 | .pure i r,0,G,a,w,U,h,M=>by simp [ScE.okW] at M
 | .pure i r,f+1,G,a,w,U,h,M=>by
  simp only [ScE.okW,gu,Bool.not_eq_true'] at M;obtain ⟨hS,o,v,ho,hy,X⟩:=h;have hi:ops[i]? = some o:=by simpa using ho
  have N:i∈gQ .any ops G:=by simpa using M.1.1.2
  exact JE (T:=S) hi (gq ⟨V i M.1.1.1.1,rfl⟩) M.1.1.1.2 (Region.noSelect_spec Y) (λc a w=>Z o.dst v c a w) f G a w U (Region.free_spec hi M.1.2) N hy hS
   (HTE.anyW O Y V Z r f _ _ w (U.set N) X M.2)
 | .free i r,0,G,a,w,U,h,M=>by simp [ScE.okW] at M
 | .free i r,f+1,G,a,w,U,h,M=>by
  simp only [ScE.okW,gu,Bool.not_eq_true'] at M;obtain ⟨hS,o,v,ho,hy,X⟩:=h;have hi:ops[i]? = some o:=by simpa using ho
  have N:i∈gQ .any ops G:=by simpa using M.1.1.2
  have aa:=gS M.1.1.1.2;exact JE (T:=S2) hi (gt ⟨O i aa,rfl⟩) M.1.1.1.1 (Region.noSelect_spec Y) (λc a w=>Z o.dst v c a w) f G a w U (Region.free_spec hi M.1.2) N hy hS
   (HTE.anyW O Y V Z r f _ _ w (U.set N) X M.2)
 | .put i r,0,G,a,w,U,h,M=>by simp [ScE.okW] at M
 | .put i r,f+1,G,a,w,U,h,M=>by
  simp only [ScE.okW,gu,beq_iff_eq] at M;obtain ⟨⟨h1,h2⟩,h3⟩:=M;refine ⟨λe=>(by rw [h2] at e;cases e),λj hj=>?_⟩;rw [h2] at hj;simp only [ia] at hj;subst hj;have N:j∈gQ .any ops G:=by rw [h2];simp
  exact wpOp_mono (λa' w' h'=>⟨λe=>(by rw [h1] at e;cases e),λ_ _=>h'.1,HTE.anyW O Y V Z r f _ a' w' (U.set N) h'.2 h3⟩) h
def Ms {P:Program} {n:Nat} {Q:Exit->Act->wD->Prop} {l:Sl} {G:List Oper} (S S2:wD->Prop) (E wr:List Nat) (j0 K:Nat) (s:ScE) (hm:P.follows .mixedOrders=true) (N:(Region.noSelect G.toArray&&(iy G.length K||II G.toArray K)&&OK G.toArray E wr j0&&ScE.okW G.toArray E wr K s G.length (iD G.length false))=true) (hQ:C5 Q)
 (h:∀w1,Ext w w1->w1.heap=w.heap->Yj P n G.toArray Q S S2 s l w1):CW P n (.region r G.toArray true) Q l w:=by
 unfold CW;intro a ha;simp only [gu] at N;have h2:=h w.drew (iK w).drew rfl;have V:DC G.toArray (iD G.length false):=λk o _ M=>by
  exfalso;rcases gK k G.length with X|X
  . simp [X] at M
  . simp [iv,X] at M
 have O:∀i,i<K->D7 G.toArray K i:=by
  by_cases Y:K<G.toArray.size
  . have M:=N.1.1.2;simp only [Bool.or_eq_true] at M;rcases M with M|M
    . have:=gS M;simp at Y;omega
    . exact DM M Y
  . intro i hi U j o _ hj ho _;have aa:j<G.toArray.size:=(Array.getElem?_eq_some_iff.1 ho).1;omega
 refine wp_region_any hm (Mr (S:=S) (S2:=S2) (wr:=wr) (K:=K) _ _ _ _ ?_);have:=HTE.anyW O N.1.1.1 (λi hE=>Mq N.1.2 hE) hQ s G.length (iD G.length false) a w.drew V (h2 a ha) N.2;simpa using this
def Own.cut {b n m cap:Nat} {a:oA} {cs:lV} (h:Own w b e sz (.slice a n cap) n (cs++us)) (M:cs.length=m*sz) (V:m<=n):Own w b e sz (.slice a m cap) m cs:=by
 obtain ⟨h1,⟨G,N⟩|⟨g,O,cur,G,N,X,h5,Y,Z,h8⟩⟩:=h
 . obtain rfl:m=0:=by omega
   refine ⟨by simpa using M,gq ⟨?_,rfl⟩⟩;rw [<-G,N]
 . simp only [gR] at G;obtain ⟨rfl,-,rfl⟩:=G;refine ⟨by simpa using M,gt ⟨g,cap,cur,rfl,N,X,Ab,Y,Z,?_⟩⟩;have U:=congrArg (List.take (m*sz)) h8;rw [List.take_take,Nat.min_eq_left (Nat.mul_le_mul_right _ V),List.take_left' M] at U;exact U
def Y9 (l:List VD):(l.flatMap VD.cells).length=l.length*3:=by
 induction l with
 | nil=>rfl
 | cons v r h=>rw [List.flatMap_cons,gO,h];simp;omega
def Own.le {b n cap:Nat} {a:oA} {cs:lV} (h:Own w b e sz (.slice a n cap) n cs):n<=cap:=by
 obtain ⟨U,⟨G,N⟩|⟨g,M,cur,G,N,V,O,X,Y,Z⟩⟩:=h
 . omega
 . simp only [gR] at G;obtain ⟨-,-,rfl⟩:=G;exact O
section
variable {ρ:Nat->Rl} {κ:Nat->Nat} {K:List (Int×Int)} {m sb:Nat} {st:Stp} {w:wD}
def StR (ρ:Nat->Rl) (sb:Nat) (st:Stp) (r:Int) (w:wD):Ending->wD->Prop:=λe w'=> ∃ ρ' κ',e = .returned (.int .i64 r)/\Ro ρ ρ' w/\StoreAt ρ' κ' w' sb st/\Fr (λk=>Mi (ρ k)) w w'
def StR.ret {r:Int} {e:Ending} (h:StR ρ sb st r w e w'):∃v,e = .returned v:=by
 obtain ⟨_,_,h,-⟩:=h;exact ⟨_,h⟩
def StR.same {r:Int} (h:StoreAt ρ κ w' sb st) (x:Ext w w'):StR ρ sb st r w (.returned (.int .i64 r)) w':=⟨ρ,κ,rfl,Ro.refl _ _,h,iM x⟩
def StoreAt.drop (h:StoreAt ρ κ w sb st):∃N O U ca V tp,Blk w sb [N,O,U,.slice ca st.calls.length V,tp]/\st.calls.length<=V /\
 ∀(l:List Frm) (f:Frm),st.calls=l++[f] -> ∀w',Fr (· = sb) w w'->Blk w' sb [N,O,U,.slice ca l.length V,tp]->StoreAt ρ κ w' sb { st with calls:=l }:=by
 obtain ⟨Y,Z,⟨N,O,cv,tb,cs,h2,h3,X,h5,h6⟩,h7⟩:=h;have aa:∃a c,cv = .slice a st.calls.length c:=by
  rcases X.1.row with ⟨rfl,hn,-⟩|⟨g,cap,rfl,-⟩
  . exact ⟨none,0,by rw [hn]⟩
  . exact ⟨_,_,rfl⟩
 obtain ⟨ca,V,rfl⟩:=aa;refine ⟨N,O,_,ca,V,_,h2,X.1.le,λl f hc w' x hb=>?_⟩;rw [hc] at h5;obtain ⟨ab,vv,vc,rfl,h8,-⟩:=(FramesOk.snoc l 1 f cs).1 h5;have ac:=FramesOk.len _ _ _ h8;have M:∀ {r:Rl},r≠.store -> ∀k,k=sb->ρ k≠r:=λn1 k G e=>by subst G;exact n1 (by rw [<-e,Y])
 have h9:=X.1;rw [hc] at h9;rw [gO,List.length_singleton] at h9;refine ⟨Y,Z.mv x,⟨N,O,_,tb,ab,hb,h3.move x (λk G=>⟨M AN k G,M AN k G⟩) (Ro.refl _ _) (λ_ _=>rfl),⟨?_,λk G=>X.2 k ?_⟩,FramesOk.move x (Ro.refl _ _) _ _ _ h8 (λk G i _ _=>⟨M AN k G,M AN k G⟩) (λ_ _ _ _=>rfl),h6.move x (λk G=>⟨M AN k G,M AN k G,M AN k G⟩) (Ro.refl _ _)⟩,λc xs hx=>(h7 c xs hx).move x (λk G=>⟨M AN k G,M AN k G⟩) (Ro.refl _ _) rfl⟩
 . exact (h9.cut (m:=l.length) (by rw [ac]) Ab).fr x (λk G e=>by
    subst e;have:=X.2 k (by cases ca<;>exact G);rw [Y] at this;cases this)
 . cases ca<;>exact G
def Za (hw:st.WF K m) (w:wD) (h:StoreAt ρ κ w sb st) :
 Calls prog 213 #[.pointer (some ⟨sb,0,none⟩)] w (StR ρ sb (st.leaves).2 (st.leaves).1 w):=by
 have X:=iK w;have am:=hw.nc;have Z:=h.role;obtain ⟨bv,bc,an,ca,cc,tp,hb,ao,M⟩:=h.drop;rcases List.eq_nil_or_concat st.calls with O|⟨l,f,O⟩
 . have e:st.leaves=(20,st):=by unfold Stp.leaves;rw [AQ (gq O)]
   rw [e];have hn:st.calls.length=0:=by rw [O];rfl
   clear M;generalize st.calls.length=n at *;subst hn;refine Ad func213 ntmps213 rfl rfl (eK ?_);refine C1 (A0 Ac rfl rfl) (kR ?_);exact StR.same Af X
 . rw [List.concat_eq_append] at O;have N:st.cur=f:=by unfold Stp.cur;rw [O];simp
   obtain ⟨fb,fo,pre,post,T,vv,vc,U,-,V,hf,-⟩:=h.open;have G:=V.blk;have HC:=gp (λw1 h=>Ey fb fo st.calls.length sb Ab w1 h);have hn:st.calls.length=l.length+1:=by rw [O];simp
   have ae:st.calls≠[]:=by rw [O];simp
   rw [N] at G;clear hf V;have aa:=gp (M l f O);clear M;have af:((st.calls.length:Int)-1)=(l.length:Int):=by omega
   have ag:l.length<=cc:=by omega
   by_cases h0:0<f.locals
   . have e:st.leaves=(20,st):=by unfold Stp.leaves;rw [AQ (gt (by rw [N];exact h0))]
     rw [e];clear aa;refine Ad func213 ntmps213 rfl rfl (eK ?_);refine C1 (A0 Ac rfl rfl) (kC (HC.out _ Af) ?_);rintro _ ap ⟨⟨⟩,ah⟩;revert h X G;refine eE ah ?_;intro h X G;refine eK ?_;refine C1 (Pw G) (kR ?_);exact StR.same Af X
   . have e:st.leaves=(0,{ st with calls:=l }):=by unfold Stp.leaves;rw [AB (by rw [N];intro h;rcases h with h|h;exact ae h;exact h0 h),O];simp
     rw [e];have F:=iP (· = sb) w;refine Ad func213 ntmps213 rfl rfl (eK ?_);refine C1 (A0 Ac rfl rfl) (kC (HC.out _ Af) ?_);rintro _ ab ⟨⟨⟩,ai⟩;revert hb U G F;refine eE ai ?_;intro hb U G F;refine eK ?_;refine C1 (Pw G) (eK ?_);refine Aq (λwz=>Ext ab wz) 12 (.pure 0 (.pure 1 (.pure 2 (.pure 3 (.pure 4 (.pure 5 (.pure 6 (.pure 7 (.pure 8 (.pure 9 (.pure 10 (.pure 11 .tail)))))))))))) mixed AT (Aa Ag) ?_;intro aj ac _;have Y:(λwz=>Ext ab wz) aj:=ac;simp only at Y;have ak:=hb;revert hb U F;refine eE ac ?_;intro hb U F;refine ⟨Y,?_⟩;refine eT ?_;refine Tq rfl (AK rfl rfl (gz _ Ab)) (Tq rfl (Dn Ac rfl rfl rfl rfl af ag) (At rfl (eK ?_)));refine eV [_] [_,_,_,_,_] hb ?_;intro aq al ad _;clear hb h G;have F:=F.fr ad Ab;refine kR ?_;exact ⟨ρ,κ,rfl,Ro.refl _ _,aa.out _ F Af,F.weaken (λk hk=>by subst hk;rw [Z];trivial)⟩
def Zb (hw:st.WF K m) (hm:m<=1000000) (s:List UInt8) (x:Int) (w:World) (h:StoreAt ρ κ w sb st) :
 Calls prog 193 #[.pointer (some ⟨sb,0,none⟩),str s,.int .i64 x] w (StR ρ sb (st.closes s x).2 (st.closes s x).1 w):=by
 have X:=iK w;have c4:=hw.nc;have c5:=hw.curm;have a6:=hw.cur;have bg:=a6.len;have bh:=a6.loc;obtain ⟨fb,fo,pre,post,T,vv,vc,bp,a1,G,hf,ad⟩:=h.open;have HC:=gp (λw1 h=>Ey fb fo st.calls.length sb Ab w1 h)
 rcases List.eq_nil_or_concat st.cur.vars with hv|⟨vs,v,hv⟩
 . have h0:st.cur.locals=0:=by rw [hv] at bh;simpa using bh
   have e:st.closes s x=(6,st):=by unfold Stp.closes;simp only;rw [AQ (gq h0)]
   rw [e];obtain ⟨av,cv,rfl,a7⟩:=GV (S:=λ_=>True) hf.v.1 (λ_ _=>trivial);have O:=G.blk;rw [h0] at O;clear hf G ad a7;refine Ad func193 ntmps193 rfl rfl ?_
   refine cS (C1 Pa (cT (Aj (cS (C1 Mv (C1 (A0 Ac rfl rfl) (cT (AY rfl (Ao (Ai (cS (C1 Mv (cC rfl (HC.out _ Af) ?_)))))))))))));rintro _ w2 ⟨⟨⟩,x1⟩;revert h X O;refine eE x1 ?_;intro h X O;clear x1;refine C1 Pa (cN (C1 Mv (C1 Pn (C1 Pg (C1 (SR O) (C1 Pz (C1 (AK rfl rfl (gz _ Ab)) (C1 Pa (cT (Aj (cS (C1 Mv (C1 Pn (C1 Pf (C1 (Pw O) (C1 V1 (C1 Mv (VI (VI (VI (VI (VI (VI (VI (VI (VI (VI (C1 Vu (cT (BJ rfl (cS (C1 Pa (cT (AM (Au (AP rfl rfl ?_))))))))))))))))))))))))))))))))))))
   exact StR.same Af X
 rw [List.concat_eq_append] at hv
 have a8:st.cur.vars.length=vs.length+1:=by rw [hv];simp
 obtain ⟨cs,c,a9⟩:∃cs c,st.cur.cells=cs++[c]:=by
  rcases List.eq_nil_or_concat st.cur.cells with h'|⟨cs,c,h'⟩
  . rw [h',a8] at bg
    simp at bg
  . exact ⟨cs,c,by rw [h',List.concat_eq_append]⟩
 have ba:st.cur.cells.length=vs.length+1:=by omega
 have a2:cs.length=vs.length:=by rw [a9] at ba;simpa using ba
 have bb:st.cur.vars[vs.length]? = some v:=by rw [hv];simp
 have a3:st.cur.cells[vs.length]? = some c:=by rw [a9,gU Ab];simp [a2]
 have bt:c<st.heap.length:=by rw [hw.len];exact a6.lt (io a3)
 have bc:=hw.cell c _ (a6.kind _ _ _ bb a3);obtain ⟨c6,vi,ab,bq⟩:=h.cells _ _ (Ez bt);obtain ⟨ai,ci,rfl⟩:=bq.1.shape
 have e:st.closes s x=if st.cur.locals=0\/v.name≠s then (6,st) else if v.kind=1/\(st.items c).getD 0 0≠x\/v.kind=3/\0<(st.items c).length then (16,st) else (0,st.setCur ⟨vs,cs,st.cur.locals-1⟩):=by
  unfold Stp.closes
  simp only;rw [a8,Nat.add_sub_cancel];rw [gY,bb,gY (l:=st.cur.cells),a3];simp only [Option.getD_some];rw [hv,a9]
  simp
 rw [e];clear e;obtain ⟨av,cv,rfl,a7⟩:=GV (S:=λ_=>True) hf.v.1 (λ_ _=>trivial);obtain ⟨ac,cc,rfl,bu⟩:=Mm hf.c.1;obtain ⟨kb,ko,rfl,-,bi⟩:=a7.get (by intro e;rw [e] at hv;simp at hv);obtain ⟨gc,rfl,r1⟩:=bu.get a3;have r0:=bi _ _ bb;have rv:=hf.v.2;have rc:=hf.c.2;have V:=hf.v.1;have Y:=hf.c.1;have lv:=V.le;have lc:=Y.le;rw [a8] at V lv;rw [ba] at Y lc;rw [hv,List.flatMap_append] at V;rw [a9,List.map_append] at Y;replace V:=V.cut (m:=vs.length) (Y9 _) Ab;replace Y:=Y.cut (m:=vs.length) (by simp [a2]) Ab
 have hd:∀k,(k:Nat)=fb->ρ k≠.vars st.calls.length/\ρ k≠.cels st.calls.length:=λk N=>by
  subst N
  rcases a1 with h|h<;>rw [h]<;>exact ⟨AN,AN⟩
 have ae:∀k,(gN (some ⟨kb,ko,none⟩) vs.length cv).ownBlock=some k -> ¬k=fb:=λk N U=>(hd k U).1 (rv k N)
 have af:∀k,(gN (some ⟨gc,0,none⟩) vs.length cc).ownBlock=some k -> ¬k=fb:=λk N U=>(hd k U).2 (rc k N)
 have b7:=gp (ad ρ κ);have HF:=gp h.fresh;have bv:=bq.1.at;clear ad a7 bu bi bb a3 bt bq hf;have F:=iP (· = fb) w;obtain ⟨vn,vk,vl⟩:=v
 unfold JP at r1
 rw [a8] at G;rw [ba] at G;have O:=G.blk
 have hi:(((vs.length+1:Nat):Int)-1).toNat=vs.length:=by omega
 have a0:(((vs.length+1:Nat):Int)-1)=(vs.length:Int):=by omega
 have br:vs.length<=cv:=by omega
 have bs:vs.length<=cc:=by omega
 replace r0:Row w ⟨kb,ko+(((vs.length+1:Nat):Int)-1).toNat*3,none⟩ [str vn,.int .u8 vk,.int .i64 vl]:=by rw [hi];exact r0
 replace r1:Row w ⟨gc,0+(((vs.length+1:Nat):Int)-1).toNat*1,none⟩ [.pointer (some ⟨κ c,0,none⟩)]:=by rw [hi];exact r1
 simp only at bc ⊢
 by_cases h6:st.cur.locals=0\/vn≠s
 . rw [AQ h6];clear G V Y r1 ab F
   generalize hL:st.cur.locals=L at *
   refine Ad func193 ntmps193 rfl rfl ?_
   focus
    refine cS (C1 Pa (cT (Aj (cS (C1 Mv (C1 (A0 Ac rfl rfl) (cT (AY rfl (Ao (Ai (cS (C1 Mv (cC rfl (HC.out _ Af) ?_)))))))))))));rintro _ c7 ⟨⟨⟩,bw⟩;revert h X r0 O;refine eE bw ?_;intro h X r0 O;clear bw;refine C1 Pa (cN (C1 Mv (C1 Pn (C1 Pg (C1 (SR O) (C1 Pz (C1 (AK rfl rfl (gz _ Ab)) (C1 Pa (cT (Aj (cS (C1 Mv (C1 Pn (C1 Pf (C1 (Pw O) (C1 V1 (C1 Mv (BY rfl rfl rfl (λb8=>?_) (λb8=>?_)))))))))))))))))));refine FB (FB (FB (FB (FB (FB (FB (FB (FB (FB (C1 Ry (cT (BJ rfl (cS (C1 Pa (cT (AM (Au (AP rfl rfl ?_))))))))))))))))));rotate_left;refine FA (C1 Mv (FA (C1 Pn (FA (C1 Pg (FA (C1 (SR O) (FA (C1 Mv (FA (C1 Pi (FA (C1 Pg (FA (C1 (SR r0) (FA (C1 Mv (FA (C1 V9 (C1 O1 (cT (BN rfl (λb9=>?_) (λb9=>?_)))))))))))))))))))))));refine cS (C1 Pa (cT (AM (Au (AP rfl rfl ?_)))));rotate_left;refine Ao (Ai ?_);rotate_left
   . exact StR.same Af X
   . exact StR.same Af X
   . exact (h6.elim (λh=>by omega) (λh=>h Af)).elim
 rw [AB h6]
 have h7:¬st.cur.locals=0:=λh=>h6 (gq h)
 have h8:vn=s:=Decidable.byContradiction λh=>h6 (gt h)
 clear h6;subst h8;have ca:=bc.le
 have ah:∀w',Fr (· = fb) w w'->Win w' fb fo [.slice (some ⟨kb,ko,none⟩) vs.length cv,.slice (some ⟨gc,0,none⟩) vs.length cc,.int .i64 ((st.cur.locals:Int)-1)] pre post T->Own w' 0 77 3 (.slice (some ⟨kb,ko,none⟩) vs.length cv) vs.length (vs.flatMap VD.cells)->Own w' 0 234 1 (.slice (some ⟨gc,0,none⟩) vs.length cc) vs.length (cs.map (JP κ))->StR ρ sb (st.setCur ⟨vs,cs,st.cur.locals-1⟩) 0 w (.returned (.int .i64 0)) w':=λw' x h1 h2 h3=>by
  rw [show ((st.cur.locals:Int)-1)=((st.cur.locals-1:Nat):Int) by omega] at h1
  exact ⟨ρ,κ,rfl,Ro.refl _ _,b7.out w' ⟨vs,cs,st.cur.locals-1⟩ _ _ (Ro.refl _ _) (HF.out.mv x) (λ_ _ _ _=>rfl) (λ_ _=>rfl) (x.weaken (λk N=>gq N)) h1 ⟨⟨h2,rv⟩,by rw [a2];exact h3,rc⟩,x.weaken (λk N=>by subst N;rcases a1 with h|h<;>rw [h]<;>trivial)⟩
 replace ah:=gp ah
 by_cases h1:vk=1
 . have bx:(st.items c).length=1:=by rcases bc with ⟨-,h⟩|⟨h,-⟩|⟨h,-⟩<;>simp only at * <;> omega
   obtain ⟨gi,go,rfl,bz⟩:=bv.get (by intro e;rw [e] at bx;simp at bx);have r2:=IntsAt.at bz (i:=(0:Int).toNat) Ab;clear bv bz bc ca;simp only [show (0:Int).toNat=0 from rfl] at r2;clear O;subst h1
   generalize c8:(st.items c).getD 0 0=v0 at *
   generalize (st.items c).length=xn at *
   generalize κ c=cb at *
   refine Ad func193 ntmps193 rfl rfl ?_
   focus
    refine cS (C1 Pa (cT (Aj (cS (C1 Mv (C1 (A0 Ac rfl rfl) (cT (AY rfl (Ao (Ai (cS (C1 Mv (cC rfl (HC.out _ Af) ?_)))))))))))));rintro _ bd ⟨⟨⟩,b0⟩;revert h X G V Y F r0 r2 r1 ab;refine eE b0 ?_;intro h X G V Y F r0 r2 r1 ab;clear b0;refine C1 Pa (cN (C1 Mv (C1 Pn (C1 Pg (Dp Ac rfl rfl rfl (Win.blk G) rfl rfl (C1 Pz (C1 (AK rfl rfl (gz _ Ab)) (C1 Pa (cT (Aj (cS (C1 Mv (C1 Pn (C1 Pf (Dh Ac rfl rfl rfl (Win.blk G) rfl rfl (C1 V1 (C1 Mv (DK (C1 Mv (DK (C1 Pn (DK (C1 Pg (DK (Dp Ac rfl rfl rfl (Win.blk G) rfl rfl (DK (C1 Mv (DK (C1 Pi (DK (C1 Pg (DK (C1 (SR r0) (DK (C1 Mv (DK (C1 V9 (C1 K5 (cT (M6 rfl (not_not_intro rfl) (Ao (Ai (cS (C1 Mv (C1 Pn (C1 Pf (Dh Ac rfl rfl rfl (Win.blk G) rfl rfl (C1 Mv (C1 Pi (C1 (SR r1) (C1 Pn (C1 Pg (C1 (Pl ab) (C1 Pa (cT (Aj (cS (C1 Mv (C1 Pn (C1 Pg (Dp Ac rfl rfl rfl (Win.blk G) rfl rfl (C1 Mv (C1 Pi (C1 Pf (C1 (Pw r0) (C1 V1 (C1 Mv ?_)))))))))))))))))))))))))))))))))))))))))))))))))))))))))))))))))));refine G2 (C1 Mv (G2 (C1 Pi (G2 (C1 (Pw r2) (G2 (C1 Mv (G2 (C1 V2 (C1 Vu (C1 Mv (BY rfl rfl rfl (λcd=>?_) (λcd=>?_)))))))))))));refine FB (FB (FB (FB (FB (FB (FB (FB (FB (FB (Hb rfl rfl rfl rfl (Hb rfl rfl rfl rfl (Hb rfl rfl rfl rfl (FB (C1 Ry (cT (BJ rfl (cS (C1 Pa (cT (AM (Au (AP rfl rfl ?_))))))))))))))))))))))
    rotate_left;refine FA (C1 Mv (FA (C1 Pn (FA (C1 Pg (FA (Dp Ac rfl rfl rfl (Win.blk G) rfl rfl (FA (C1 Mv (FA (C1 Pi (FA (C1 Pf (FA (C1 (Pw r0) (FA (C1 V1 (FA (C1 Mv (X0 (X0 (X0 (FA (C1 XZ (C1 O1 (cT (AY rfl (Ao (Ai (Aj (Ms (λZ=>Ext bd Z) (λZ=>Fr (λx=>x=fb) bd Z) [0,2,3,4,5,6,7,8,9,10,11,14,15] [16,17,18,19] 16 17 (.pure 0 (.free 1 (.pure 2 (.pure 3 (.pure 4 (.pure 5 (.pure 6 (.pure 7 (.pure 8 (.pure 9 (.pure 10 (.pure 11 (.free 12 (.free 13 (.pure 14 (.pure 15 (.put 16 (.tail 17)))))))))))))))))) mixed AT (Aa Ag) ?_)))))))))))))))))))))))))))))));intro b1 be _;have bj:(λZ=>Ext bd Z) b1:=be;simp only at bj;have ao:(λZ=>Fr (λx=>x=fb) bd Z) b1:=iM be;simp only at ao;have a4:=h;have aa:=bp;have M:=G;have aj:=V;revert G V Y F;refine eE be ?_;intro G V Y F;clear be;refine An Af rfl (Ar rfl) rfl (Bl Af rfl (Ar rfl) rfl (An Af rfl (Ar rfl) rfl (An Af rfl (BG rfl) rfl (An Af rfl (Cq Ac rfl rfl rfl) rfl (An Af rfl (Ap Ac rfl rfl rfl (λZ hz=>iT (iN (Win.blk M) hz) rfl)) rfl (An Af rfl (Ar rfl) rfl ?_))))))
    refine An Af rfl (Dn Ac rfl rfl rfl rfl a0 br) rfl (An Af rfl (Ar rfl) rfl (An Af rfl (BG rfl) rfl (An Af rfl (AZ Ac rfl rfl rfl) rfl (An Af rfl (Ap Ac rfl rfl rfl (λZ hz=>Row.at (iN (Win.blk M) hz) rfl)) rfl (Bl Af rfl (Ar rfl) rfl (Bl Af rfl (Dn Ac rfl rfl rfl rfl a0 bs) rfl (An Af rfl (BG rfl) rfl (An Af rfl (Cq Ac rfl rfl rfl) rfl (Du rfl (E9 fb fo [_,_,_] Ac rfl rfl rfl rfl rfl rfl Af rfl rfl) (BA ?_))))))))));rintro _ cg ⟨b2,ak,ch⟩;replace ao:=ao.fr ak Ab;clear h G;replace V:=i9 V ak (λk N U=>ae k N U);replace Y:=i9 Y ak (λk N U=>af k N U);replace F:=F.fr ak Ab;clear r0 r2 r1 ab ak;refine ⟨Af,?_⟩;clear bj a4 aa M aj ao;refine Dt rfl (C1 Pn (C1 Pf (A2 (Cn fb fo 1 [_,_,_] Ac rfl rfl rfl rfl rfl rfl Af rfl rfl) (BA ?_))));rintro _ cj ⟨bk,ap,ck⟩;clear b2;replace V:=i9 V ap (λk N U=>ae k N U);replace Y:=i9 Y ap (λk N U=>af k N U)
    replace F:=F.fr ap Ab;clear ap;refine cN (C1 Mv (C1 Pn (C1 Pf (Dh Ac rfl rfl rfl (Win.blk bk) rfl rfl (C1 (AK rfl rfl (gz _ Ab)) (C1 Pn (C1 Pf (A2 (Cn fb fo 2 [_,_,_] Ac rfl rfl rfl rfl rfl rfl Af rfl rfl) (BA ?_)))))))));rintro _ cl ⟨cm,aq,cn⟩;clear bk;replace V:=i9 V aq (λk N U=>ae k N U);replace Y:=i9 Y aq (λk N U=>af k N U);replace F:=F.fr aq Ab;clear aq;refine cN (C1 Pa (cT (AM (AP rfl rfl ?_))));rotate_left
   . rw [AQ (gq ⟨rfl,Af⟩)]
     exact StR.same Af X
   . rw [AB (λh=>by rcases h with ⟨-,h⟩|⟨h,-⟩;exact absurd h Af;simp at h)]
     exact ah.out _ F Af Af Af
 . clear O
   generalize (st.items c).length=xn at *
   generalize κ c=cb at *
   refine Ad func193 ntmps193 rfl rfl ?_
   focus
    refine cS (C1 Pa (cT (Aj (cS (C1 Mv (C1 (A0 Ac rfl rfl) (cT (AY rfl (Ao (Ai (cS (C1 Mv (cC rfl (HC.out _ Af) ?_)))))))))))));rintro _ al ⟨⟨⟩,b3⟩;revert h X G V Y F r0 r1 ab;refine eE b3 ?_;intro h X G V Y F r0 r1 ab;clear b3;refine C1 Pa (cN (C1 Mv (C1 Pn (C1 Pg (Dp Ac rfl rfl rfl (Win.blk G) rfl rfl (C1 Pz (C1 (AK rfl rfl (gz _ Ab)) (C1 Pa (cT (Aj (cS (C1 Mv (C1 Pn (C1 Pf (Dh Ac rfl rfl rfl (Win.blk G) rfl rfl (C1 V1 (C1 Mv (DK (C1 Mv (DK (C1 Pn (DK (C1 Pg (DK (Dp Ac rfl rfl rfl (Win.blk G) rfl rfl (DK (C1 Mv (DK (C1 Pi (DK (C1 Pg (DK (C1 (SR r0) (DK (C1 Mv (DK (C1 V9 (C1 K5 (cT (M6 rfl (not_not_intro rfl) (Ao (Ai (cS (C1 Mv (C1 Pn (C1 Pf (Dh Ac rfl rfl rfl (Win.blk G) rfl rfl (C1 Mv (C1 Pi (C1 (SR r1) (C1 Pn (C1 Pg (C1 (Pl ab) (C1 Pa (cT (Aj (cS (C1 Mv (C1 Pn (C1 Pg (Dp Ac rfl rfl rfl (Win.blk G) rfl rfl (C1 Mv (C1 Pi (C1 Pf (C1 (Pw r0) (C1 V1 (C1 Mv ?_)))))))))))))))))))))))))))))))))))))))))))))))))))))))))))))))))));refine O2 (O2 (O2 (O2 (O2 (C1 O1 (C1 Mv (A1 rfl rfl rfl (rfl) (C1 Mv (A1 rfl rfl rfl (rfl) (C1 Pn (A1 rfl rfl rfl (rfl) (C1 Pg (A1 rfl rfl rfl (rfl) (Dp Ac rfl rfl rfl (Win.blk G) rfl rfl (A1 rfl rfl rfl (rfl) (C1 Mv (A1 rfl rfl rfl (rfl) (C1 Pi (A1 rfl rfl rfl (rfl) (C1 Pf (A1 rfl rfl rfl (rfl) (C1 (Pw r0) (A1 rfl rfl rfl (rfl) ?_)))))))))))))))))))))))
    refine C1 V1 (A1 rfl rfl rfl (rfl) (C1 Mv (BY rfl rfl rfl (λce=>?_) (λce=>?_))));refine cK (C1 Mv (cK (C1 Pz (cK (C1 V5 (A1 rfl rfl rfl (rfl) (C1 Ry (C1 (Bm rfl rfl rfl) (cT (Ay rfl (λcf=>?_) (λcf=>?_)))))))))));refine cS (C1 Pa (cT (AM (Au (AP rfl rfl ?_)))));rotate_left;refine Ao (Ai (Aj (Ms (λZ=>Ext al Z) (λZ=>Fr (λx=>x=fb) al Z) [0,2,3,4,5,6,7,8,9,10,11,14,15] [16,17,18,19] 16 17 (.pure 0 (.free 1 (.pure 2 (.pure 3 (.pure 4 (.pure 5 (.pure 6 (.pure 7 (.pure 8 (.pure 9 (.pure 10 (.pure 11 (.free 12 (.free 13 (.pure 14 (.pure 15 (.put 16 (.tail 17)))))))))))))))))) mixed AT (Aa Ag) ?_)));intro b4 bf _;have bl:(λZ=>Ext al Z) b4:=bf;simp only at bl;have ar:(λZ=>Fr (λx=>x=fb) al Z) b4:=iM bf;simp only at ar;have a4:=h;have aa:=bp;have M:=G;have aj:=V;revert G V Y F;refine eE bf ?_;intro G V Y F;clear bf;refine An Af rfl (Ar rfl) rfl (Bl Af rfl (Ar rfl) rfl (An Af rfl (Ar rfl) rfl (An Af rfl (BG rfl) rfl (An Af rfl (Cq Ac rfl rfl rfl) rfl (An Af rfl (Ap Ac rfl rfl rfl (λZ hz=>iT (iN (Win.blk M) hz) rfl)) rfl ?_)))))
    refine An Af rfl (Ar rfl) rfl (An Af rfl (Dn Ac rfl rfl rfl rfl a0 br) rfl (An Af rfl (Ar rfl) rfl (An Af rfl (BG rfl) rfl (An Af rfl (AZ Ac rfl rfl rfl) rfl (An Af rfl (Ap Ac rfl rfl rfl (λZ hz=>Row.at (iN (Win.blk M) hz) rfl)) rfl (Bl Af rfl (Ar rfl) rfl (Bl Af rfl (Dn Ac rfl rfl rfl rfl a0 bs) rfl (An Af rfl (BG rfl) rfl (An Af rfl (Cq Ac rfl rfl rfl) rfl (Du rfl (E9 fb fo [_,_,_] Ac rfl rfl rfl rfl rfl rfl Af rfl rfl) (BA ?_)))))))))));rintro _ co ⟨b5,am,cp⟩;replace ar:=ar.fr am Ab;clear h G;replace V:=i9 V am (λk N U=>ae k N U);replace Y:=i9 Y am (λk N U=>af k N U);replace F:=F.fr am Ab;clear r0 r1 ab am;refine ⟨Af,?_⟩;clear bl a4 aa M aj ar;refine Dt rfl (C1 Pn (C1 Pf (A2 (Cn fb fo 1 [_,_,_] Ac rfl rfl rfl rfl rfl rfl Af rfl rfl) (BA ?_))));rintro _ cq ⟨bm,au,cr⟩;clear b5;replace V:=i9 V au (λk N U=>ae k N U)
    replace Y:=i9 Y au (λk N U=>af k N U);replace F:=F.fr au Ab;clear au;refine cN (C1 Mv (C1 Pn (C1 Pf (Dh Ac rfl rfl rfl (Win.blk bm) rfl rfl (C1 (AK rfl rfl (gz _ Ab)) (C1 Pn (C1 Pf (A2 (Cn fb fo 2 [_,_,_] Ac rfl rfl rfl rfl rfl rfl Af rfl rfl) (BA ?_)))))))));rintro _ ct ⟨cu,aw,cw⟩;clear bm;replace V:=i9 V aw (λk N U=>ae k N U);replace Y:=i9 Y aw (λk N U=>af k N U);replace F:=F.fr aw Ab;clear aw;refine cN (C1 Pa (cT (AM (AP rfl rfl ?_))));rotate_left;refine O2 (O2 (O2 (A1 rfl rfl rfl (rfl) (C1 O1 (C1 (Bm rfl rfl rfl) (cT (AY rfl (Ao (Ai (Aj (Ms (λZ=>Ext al Z) (λZ=>Fr (λx=>x=fb) al Z) [0,2,3,4,5,6,7,8,9,10,11,14,15] [16,17,18,19] 16 17 (.pure 0 (.free 1 (.pure 2 (.pure 3 (.pure 4 (.pure 5 (.pure 6 (.pure 7 (.pure 8 (.pure 9 (.pure 10 (.pure 11 (.free 12 (.free 13 (.pure 14 (.pure 15 (.put 16 (.tail 17)))))))))))))))))) mixed AT (Aa Ag) ?_)))))))))));intro bn ax _;have a5:(λZ=>Ext al Z) bn:=ax;simp only at a5;have ag:(λZ=>Fr (λx=>x=fb) al Z) bn:=iM ax;simp only at ag;have a4:=h;have aa:=bp;have M:=G;have aj:=V;revert G V Y F;refine eE ax ?_
    intro G V Y F;clear ax;refine An Af rfl (Ar rfl) rfl (Bl Af rfl (Ar rfl) rfl (An Af rfl (Ar rfl) rfl (An Af rfl (BG rfl) rfl (An Af rfl (Cq Ac rfl rfl rfl) rfl (An Af rfl (Ap Ac rfl rfl rfl (λZ hz=>iT (iN (Win.blk M) hz) rfl)) rfl (An Af rfl (Ar rfl) rfl (An Af rfl (Dn Ac rfl rfl rfl rfl a0 br) rfl (An Af rfl (Ar rfl) rfl (An Af rfl (BG rfl) rfl (An Af rfl (AZ Ac rfl rfl rfl) rfl (An Af rfl (Ap Ac rfl rfl rfl (λZ hz=>Row.at (iN (Win.blk M) hz) rfl)) rfl (Bl Af rfl (Ar rfl) rfl ?_))))))))))));refine Bl Af rfl (Dn Ac rfl rfl rfl rfl a0 bs) rfl (An Af rfl (BG rfl) rfl (An Af rfl (Cq Ac rfl rfl rfl) rfl (Du rfl (E9 fb fo [_,_,_] Ac rfl rfl rfl rfl rfl rfl Af rfl rfl) (BA ?_))));rintro _ cx ⟨b6,an,cy⟩;replace ag:=ag.fr an Ab;clear h G;replace V:=i9 V an (λk N U=>ae k N U)
    replace Y:=i9 Y an (λk N U=>af k N U);replace F:=F.fr an Ab;clear r0 r1 ab an;refine ⟨Af,?_⟩;clear a5 a4 aa M aj ag;refine Dt rfl (C1 Pn (C1 Pf (A2 (Cn fb fo 1 [_,_,_] Ac rfl rfl rfl rfl rfl rfl Af rfl rfl) (BA ?_))));rintro _ cz ⟨bo,ay,c0⟩;clear b6;replace V:=i9 V ay (λk N U=>ae k N U);replace Y:=i9 Y ay (λk N U=>af k N U);replace F:=F.fr ay Ab;clear ay;refine cN (C1 Mv (C1 Pn (C1 Pf (Dh Ac rfl rfl rfl (Win.blk bo) rfl rfl (C1 (AK rfl rfl (gz _ Ab)) (C1 Pn (C1 Pf (A2 (Cn fb fo 2 [_,_,_] Ac rfl rfl rfl rfl rfl rfl Af rfl rfl) (BA ?_)))))))));rintro _ c1 ⟨c2,az,c3⟩;clear bo;replace V:=i9 V az (λk N U=>ae k N U);replace Y:=i9 Y az (λk N U=>af k N U);replace F:=F.fr az Ab;clear az;refine cN (C1 Pa (cT (AM (AP rfl rfl ?_))));rotate_left
   . rw [AQ (gt ⟨Af,Ab⟩)]
     exact StR.same Af X
   . rw [AB (λh=>by rcases h with ⟨h,-⟩|⟨-,h⟩;exact absurd h Af;omega)]
     exact ah.out _ F Af Af Af
   . rw [AB (λh=>by rcases h with ⟨h,-⟩|⟨h,-⟩;exact absurd h Af;exact absurd h Af)]
     exact ah.out _ F Af Af Af
end
end Bk
