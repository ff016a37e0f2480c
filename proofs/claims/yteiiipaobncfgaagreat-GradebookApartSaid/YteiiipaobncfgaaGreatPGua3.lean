/- Texts that the proofs of GradebookNone, GradebookFull, GradebookNew, GradebookRanks, GradebookApart need. No condition. (Part 3 of 13.) -/
import Derived.Test.YteiiipaobncfgaaGreatPGua2
set_option linter.unusedSimpArgs false
set_option linter.unusedVariables false
set_option linter.defProp false
set_option maxRecDepth 100000
set_option maxHeartbeats 4000000
open Go.Proofs.Tryz
open List renaming getElem?_eq_getElem->gm,take_succ_eq_append_getElem->gx,getElem_mem->gA,length_cons->gD,take_length->gF,getElem?_eq_none->gG,getElem?_append_left->gJ,length_append->gO,replicate->gT,getElem?_append_right->gU,getElem?_map->gV,drop_eq_getElem_cons->gW,getElem?_cons_zero->gX,getD_eq_getElem?_getD->gY,append_assoc->gZ,length_nil->hH,mem_singleton->ia,length_take->ij,mem_cons->ik,map_cons->im,mem_of_getElem?->io,range->it,getElem?_set_ne->iF,not_mem_nil->iH
open Go.Lib renaming hid->gp
open Or renaming inl->gq,inr->gt
open Bool renaming and_eq_true->gu,false_eq_true->iE
open Go.Result renaming andThen->gw
open Option.some renaming injEq->gy,inj->gB
open Go.IntWalk renaming i64_in->gz
open Nat renaming zero_le->gC,le_refl->gI,lt_or_ge->gK,blt->gM,le_of_ble_eq_true->gS,eq_of_beq_eq_true->ip,zero_add->iu,ble->iy,beq->iA
open Go.Sem renaming run_bind->gE,run_pure->gP
open Go renaming Calls->gH
open Except renaming bind->gL
open Go.Value renaming slice->gN,int->ii,ownBlock->iI
open Go.Region renaming ready->gQ,binds->iw
open Go.Value.slice renaming injEq->gR
open Go.DataW renaming trod->ic
open List.cons renaming injEq->ig
open Go.Builtin renaming zeroCells->iq
open Go.Calls renaming mono->ir
open Array renaming getElem?_eq_none->iv,replicate->iD
open Go.Oper renaming wp->iB
open Go.Addr renaming add->iC
open Go.IntKind renaming wrap->iG
open Go.Op renaming equalIn->iJ
open Bk.Ext renaming refl->iK,fr->iY
open Bk.Nd.sits renaming fr->iL,wide->iR
open Bk.Fr renaming of_ext->iM,refl->iP
open Bk.Row renaming ext->iN
open Bk.Blk renaming fr->iO,cell->iV,ext->iW,row->i7
open Bk.Nd renaming size->iX,kind->jj,kids->jp
open Bk.Value renaming one->i6
open Bk.rowSits renaming fr->jh
open Bk.ArrS renaming wide->jn
namespace Bk
open Go Go.RowKit Go.Proofs
attribute [local irreducible] Go.Calls
def C8 (q:Bool) (k:Int) (x:Nd):Nd:=if k=57\/x.kind=57 then x.inv q else x
def RJ (q:Bool) (l:List Nd):Ca q l=l.map (C8 q 57):=by
 induction l with
 | nil=>rfl
 | cons t r h=>simp only [Ca,im,h,C8,true_or,if_true]
def PM (q:Bool) {k:Int} (h:k≠57) (l:List Nd):Dm q l=l.map (C8 q k):=by
 induction l with
 | nil=>rfl
 | cons t r G=>simp only [Dm,im,G,C8,h,false_or]
def FZ (f:Nd->Nd) (l:List Nd) (j:Nat):List Nd:=(l.take j).map f++gT (l.length-j) BQ
def RK (f:Nd->Nd) (l:List Nd) (j:Nat) (h:j<=l.length):(FZ f l j).length=l.length:=by
 simp only [FZ,gO,List.length_map,ij,List.length_replicate];omega
def RL (f:Nd->Nd) (l:List Nd) (j:Nat) (h:j<l.length):(FZ f l j).set j (f l[j])=FZ f l (j+1):=by
 unfold FZ;have G:((l.take j).map f).length=j:=by simp;omega
 rw [List.set_append_right _ _ Ab,G,Nat.sub_self,show l.length-j=(l.length-(j+1))+1 by omega,List.replicate_succ,List.set_cons_zero,gx h,List.map_append,gZ];rfl
def RM (f:Nd->Nd) (l:List Nd):FZ f l l.length=l.map f:=by simp [FZ]
def RN {k n:Int} {s:lB} {l:List Nd} (h:(Nd.mk k n s l).isStmt=true\/(Nd.mk k n s l).isBlock=true):(∀x∈l,k=57\/x.kind=57->x.isStmt=true\/x.isBlock=true)/\(k=52\/k=53\/k=54->l≠[])/\40<=k/\k<=57:=by
 rcases h with h|h
 . have X:=Nh h;simp only [jj] at X;have G:∀x:Nd,x.isExpr=true -> ¬x.kind=57:=λx G=>by have:=Ic G;omega
   have key:∀x∈l,x.isBlock=true\/x.isExpr=true:=by
    cases Ce h with
    | call _ _ _ Y=>intro x G;exact gt (GA (List.all_eq_true.1 Y x G))
    | upd _ M O=>intro x G;simp only [ik,iH,or_false] at G;rcases G with rfl|rfl<;>first|exact gt (Bd Af)|exact gt Af
    | swap M O=>intro x G;simp only [ik,iH,or_false] at G;rcases G with rfl|rfl<;>exact gt (Bd Af)
    | stack _ _ M=>intro x G;simp only [ik,iH,or_false] at G;rw [G];exact gt (Bd M)
    | tape _ M=>intro x G;simp only [ik,iH,or_false] at G;rw [G];exact gt (Bd M)
    | branch _ M O Z h4=>intro x G;simp only [ik,iH,or_false] at G;rcases G with rfl|rfl|rfl|rfl<;>first|exact gt Af|exact gq Af
    | local_ _ M O Z=>intro x G;simp only [ik,iH,or_false] at G;rcases G with rfl|rfl|rfl<;>first|exact gt Af|exact gq Af
    | lstack _ M=>intro x G;simp only [ik,iH,or_false] at G;rw [G];exact gq M
   refine ⟨λx U N=>?_,λN=>?_,Ab,Ab⟩
   . rcases N with rfl|N
     . omega
     . rcases key x U with hb|he
       . exact gt hb
       . exact absurd N (G x he)
   . rintro rfl;cases Ce h with
     | call aa=>omega
 . obtain ⟨e,V⟩:=DT h;simp only [jp,Nd.mk.injEq,and_true] at e V;obtain ⟨rfl,-,-⟩:=e;exact ⟨λx G _=>gq (rowStmt_iff.1 V x G),λN=>by omega,Ab,Ab⟩
def PN (q:Bool) {k n:Int} {s:lB} {l:List Nd} (hk:¬k=57):(Nd.mk k n s l).inv q=if k=52\/k=53\/k=54 then .mk k n s (Ge (l.map (C8 q k))) else .mk (if k=50\/k=51 then (if q then k else Ck k) else Ck k) n s (l.map (C8 q k)):=by
 conv=>lhs;unfold Nd.inv
 rw [AB hk,PM q hk];by_cases h1:k=52\/k=53\/k=54
 . rw [AQ h1,AQ h1]
 . rw [AB h1,AB h1];by_cases h2:k=50\/k=51
   . rw [AQ h2,AQ h2]
   . rw [AB h2,AB h2]
def PO (w:wD) (S:nP):ndShape.rep w S BQ [.int .u8 0,.int .i64 0,.string ⟨#[]⟩,.slice none 0 0]:=⟨none,0,rfl,VQ⟩
def ArrS.sits {C D g:Nat} {w:wD} {xs:List Nd} (h:ArrS ndShape C D w g xs) {S:nP} (M:S g) (N:∀b,C<=b->b<D->S b):rowSits S w xs (some ⟨g,0,none⟩):=
 IP M xs 0 (λi x O=>by
  obtain ⟨cs,U,a,c,rfl,V⟩:=h.row O;exact ⟨a,c,U,iR V (λb G=>N b G.1 G.2)⟩)
def DB {C g:Nat} {w w':wD} {k n:Int} {s:lB} {xs:List Nd} {m:Nat} (M:xs.length=m) (h:ArrS ndShape C w'.heap.size w' g xs) (N:w.heap.size<=g) (U:w.heap.size<=C) (X:Ext w w'):CopyR (.mk k n s xs) w (.returned (.agg #[.int .u8 k,.int .i64 n,str s,.slice (some ⟨g,0,none⟩) m m])) w':=by
 subst M;exact ⟨some ⟨g,0,none⟩,xs.length,rfl,SX (h.sits ⟨N,h.lt⟩ (λb O G=>⟨Ab,G⟩)),X⟩
def Wc (q:Bool) (N:Nat):∀(t:Nd) (S:nP) (a:oA) (c:Nat) (w:wD),t.size<N->t.size<=1000000->(t.isStmt=true\/t.isBlock=true)->t.sits S w a->Calls prog 111 #[t.val a c,.bool q] w (CopyR (t.inv q) w):=by
 induction N with
 | zero=>intro t S a c w h;omega
 | succ N ih=>
  rintro ⟨k,n,s,l⟩ S a c w hN hM hv hs;have hlen:=Cm l;simp only [iX] at hN hM;obtain ⟨v1,v2,v3,v4⟩:=RN hv;clear hv;have hC:∀x∈l,(k=57\/x.kind=57) -> ∀(S:nP) (a:oA) (c:Nat) (w:wD),x.sits S w a->Calls prog 111 #[x.val a c,.bool q] w (CopyR (x.inv q) w):=λx hx hk S a c w h=>by
   have:=Cx hx;exact ih x S a c w Ab Ab (v1 x hx hk) h
  clear ih v1;have HC:=gp hC;clear hC;have hs:=B6 _ _ (Es hs);have X:=iK w;refine Ad func111 ntmps111 rfl rfl ?_;refine cS (eB [_,_,_,_] ?_);intro b1 w2 h4 x5 p6 z7;revert hs X;refine eE x5 ?_;intro hs X;refine eA [_,_,_,_] ?_;intro b8 w9 r cd et eu;revert h4 hs X;refine eE cd ?_;intro h4 hs X;refine cT ?_;refine FM (ι:=Nat×Nat) (λx=>[(1,.bool q),(2,.pointer (some ⟨b1,0,none⟩)),(4,.pointer (some ⟨b8,0,none⟩)),(5,.pointer (some ⟨x.1,0,none⟩))])
   (λx w'=>ArrS ndShape (b1+4) (b1+4) w' x.2 (gT l.length BQ)/\Blk w' x.1 [.int .u8 k,.int .i64 n,str s,.slice (some ⟨x.2,0,none⟩) l.length l.length]/\b8<x.1/\b8<x.2/\x.1≠x.2/\x.1<b1+4/\x.2<b1+4/\Blk w' b1 [.int .u8 k,.int .i64 n,str s,.slice a l.length c]/\Blk w' b8 [.int .u8 0,.int .i64 0,str [],.slice none 0 0]/\rowSits (· < w.heap.size) w' l a/\Ext w w'/\w'.heap.size=b1+4) ?_ ?_
  . focus
     refine Aq (λwz=>Ext w9 wz) 12 (.pure 0 (.pure 1 (.pure 2 (.pure 3 (.pure 4 (.pure 5 (.pure 6 (.pure 7 (.pure 8 (.fork 9 (.pure 10 (.fork 11 .tail .none)) (.fork 11 (.fork 9 (.pure 10 .tail) .none) .none))))))))))) mixed AT (Aa Ag) ?_;intro aw a4 _;have o:(λwz=>Ext w9 wz) aw:=a4;simp only at o;have ce:=r;have cw:=h4;have T:=hs;revert r h4 hs X;refine eY a4 ?_;intro ev r h4 hs X;refine ⟨o,?_⟩;refine eT ?_;refine AE rfl (Dj (sh:=ndShape) (C:=b1+4) (D:=b1+4) (N:=l.length) (z:=BQ) Ac Cs rfl rfl rfl rfl AT rfl rfl Ab PO) rfl ?_ aFh ?kra5;rintro _ cx ⟨cf,rfl,U,ew,ex,a5⟩;revert o r h4 hs X;refine eY a5 ?_;intro cy o r h4 hs X;refine ⟨o,?_⟩;refine Tq rfl (xB [_,_,_,_]) ?_;refine AE rfl (Bb Cs rfl) rfl ?_ aFh AD;rintro _ cz ⟨a6,rfl,O⟩;have ac:=O.blk;dsimp only at ac;have a7:=O.ext;have c0:=O.pos;have c1:=O.size;revert U o r h4 hs X;refine eE a7 ?_;intro U o r h4 hs X;refine ⟨o,?_⟩;refine At rfl (eS [_,_,_,_] ac ?_);intro c2 a8 a9 c3;revert U r h4 hs X;refine eF a9 ?_;intro U r h4 hs X;refine Ak ?_;rotate_left;refine AE rfl (Bb Cs rfl) rfl ?_ aFh AD;rintro _ c4 ⟨ba,rfl,Q⟩;have R:=Q.blk;dsimp only at R;have bb:=Q.ext;have c5:=Q.pos;have c6:=Q.size;revert o r h4 hs X;refine eE bb ?_;intro o r h4 hs X;refine ⟨o,?_⟩;refine AE rfl (Dj (sh:=ndShape) (C:=b1+4) (D:=b1+4) (N:=l.length) (z:=BQ) Ac Cs rfl rfl rfl rfl AT rfl rfl Ab PO) rfl ?_ aFh AD;rintro _ c7 ⟨bc,rfl,V,c8,c9,bd⟩;revert R o r h4 hs X;refine eY bd ?_;intro da R o r h4 hs X;refine ⟨o,?_⟩;refine Tq rfl (xB [_,_,_,_]) ?_;refine At rfl (eS [_,_,_,_] R ?_);intro db be bf dc;revert V r h4 hs X;refine eF bf ?_;intro V r h4 hs X;refine Ak ?_;rotate_left
    . have hq:aw.heap.size=w9.heap.size:=congrArg Array.size Af;exact BS (a6,cf) sB ⟨U,a8,by simp only;omega,by simp only;omega,by simp only;omega,by simp only;omega,by simp only;omega,h4,r,hs,X,Ab⟩
    . have hq:aw.heap.size=w9.heap.size:=congrArg Array.size Af;exact BS (ba,bc) sB ⟨V,be,by simp only;omega,by simp only;omega,by simp only;omega,by simp only;omega,by simp only;omega,h4,r,hs,X,Ab⟩
  . clear h4 r hs X;rintro ⟨bm,g⟩ w1 ⟨hA,hbm,o1,o2,o3,o4,o5,d,f,hs,X,hz⟩;simp only at hA hbm o1 o2 o3 o4 o5;refine CW.sub (m:=[(1,.bool q),(2,.pointer (some ⟨b1,0,none⟩)),(4,.pointer (some ⟨b8,0,none⟩)),(5,.pointer (some ⟨bm,0,none⟩))]) ?_ sB;have e0:gT l.length BQ=FZ (C8 q k) l 0:=by simp [FZ]
    rw [e0] at hA;refine FM (ι:=Unit) (λ_=>[(1,.bool q),(2,.pointer (some ⟨b1,0,none⟩)),(4,.pointer (some ⟨b8,0,none⟩)),(5,.pointer (some ⟨bm,0,none⟩))])
     (λ_ w'=>ArrS ndShape (b1+4) w'.heap.size w' g (l.map (C8 q k))/\Blk w' bm [.int .u8 k,.int .i64 n,str s,.slice (some ⟨g,0,none⟩) l.length l.length]/\Blk w' b1 [.int .u8 k,.int .i64 n,str s,.slice a l.length c]/\Blk w' b8 [.int .u8 0,.int .i64 0,str [],.slice none 0 0]/\Ext w w'/\b1+4<=w'.heap.size) ?_ ?_
    . refine cS (C1 Pf (C1 (Pl d) (C1 Pz (C1 Mv (cT ?_)))));refine As ?_;refine AG (ι:=Nat) (λj=>[(1,.bool q),(2,.pointer (some ⟨b1,0,none⟩)),(4,.pointer (some ⟨b8,0,none⟩)),(5,.pointer (some ⟨bm,0,none⟩)),(21,.slice a l.length c),(22,.int .i64 l.length),(23,.int .i64 j)])
       (λj w'=>j<=l.length/\ArrS ndShape (b1+4) w'.heap.size w' g (FZ (C8 q k) l j)/\Blk w' bm [.int .u8 k,.int .i64 n,str s,.slice (some ⟨g,0,none⟩) l.length l.length]/\Blk w' b1 [.int .u8 k,.int .i64 n,str s,.slice a l.length c]/\Blk w' b8 [.int .u8 0,.int .i64 0,str [],.slice none 0 0]/\rowSits (· < w.heap.size) w' l a/\Ext w w'/\b1+4<=w'.heap.size)
       (λj=>l.length-j) 0 sB ⟨gC _,hA.wide Ab,hbm,d,f,hs,X,Ab⟩ ?_
      clear hA hbm d f hs X hz e0;rintro j w2 ⟨hj,hA,hbm,d,f,hs,X,hz⟩;by_cases hlt:j<l.length
      . obtain ⟨kb,ko,rfl,kS,hkid⟩:=BI hs (by intro e;subst e;simp at hlt);obtain ⟨xa,xc,rx,sx⟩:=hkid j l[j] (gm hlt);have HX:=gp (HC.out l[j] (gA hlt));have hxz:=Cx (gA hlt);have hnext:=RL (C8 q k) l j hlt;have hdl:=RK (C8 q k) l j hj;clear hkid HC;by_cases hk:k=57\/(l[j]).kind=57
        . have HX2:=gp (HX.out hk);have hfx:C8 q k l[j]=(l[j]).inv q:=by unfold C8;rw [AQ hk]
          rw [hfx] at hnext;clear HX hfx;generalize l[j]=x at *
          focus
           refine eK ?_;refine eA [_,_,_,_] ?_;intro ey ez cg ch e1 e2;revert hA hbm f X d hs rx sx;refine eE ch ?_;intro hA hbm f X d hs rx sx;refine C1 Pa (eS [_,_,_,_] cg ?_);intro aa p bg dd;revert hA hbm f X d hs rx sx;refine eF bg ?_;intro hA hbm f X d hs rx sx;refine eK ?_;refine BY rfl rfl rfl (λbh=>?_) (λbh=>?_);refine eK ?_;refine Aq (λwz=>Ext aa wz) 6 (.pure 0 (.pure 1 (.pure 2 (.pure 3 (.pure 4 (.fork 5 .tail .none)))))) mixed AT (Ae (Aa (Aa (Ae (Aa Ag))))) ?_;intro bi ad _;have u:(λwz=>Ext aa wz) bi:=ad;simp only at u;have G:=p;have I:=hA;have i:=hbm;have v:=f;have A:=d;have T:=hs;have ae:=rx;have J:=sx;revert p hA hbm f X d hs rx sx;refine eY ad ?_;intro de p hA hbm f X d hs rx sx;refine ⟨u,?_⟩;refine eT ?_;refine Tq rfl (xL [_,_,_,_] (λwz hz=>(iW G hz))) (Tq rfl Mv ?_);refine tC rfl rfl (HX2.out _ _ _ _ Af) ?_;rintro _ df ⟨dg,dh,⟨⟩,af,bj⟩;revert u p hA hbm f X d hs rx sx;refine eY bj ?_;intro di u p hA hbm f X d hs rx sx;refine ⟨u,?_⟩;refine At rfl (C1 Pi (A2 (FL (sh:=ndShape) (j:=j) (z:=x.inv q) (us:=[_,_,_,_]) Ac rfl rfl rfl rfl rfl rfl Af Ab Ab Ab ⟨_,_,rfl,iR Af (λb h=>by omega)⟩) (BA ?_)));rintro _ dj ⟨dk,ag,dl⟩;revert af p;refine eZ ag ?_;intro dm af p;clear hA;revert hbm f X d hs rx sx;refine eF ag ?_;intro hbm f X d hs rx sx;refine Ak (Ah (Ai (Al (C1 V7 (C1 Mv (Ak ?_))))));rotate_left;refine eK ?_;refine Aq (λwz=>Ext aa wz) 6 (.pure 0 (.pure 1 (.pure 2 (.pure 3 (.pure 4 (.fork 5 .tail .none)))))) mixed AT (Ae (Aa (Aa (Ae (Aa Ag))))) ?_;intro bk ah _;have B:(λwz=>Ext aa wz) bk:=ah;simp only at B;have G:=p;have I:=hA;have i:=hbm;have v:=f;have A:=d;have T:=hs;have ae:=rx;have J:=sx;revert p hA hbm f X d hs rx sx;refine eY ah ?_;intro dn p hA hbm f X d hs rx sx;refine ⟨B,?_⟩;refine eT ?_;refine Tq rfl (xL [_,_,_,_] (λwz hz=>(iW G hz))) (Tq rfl Mv ?_);refine tC rfl rfl (HX2.out _ _ _ _ Af) ?_
           rintro _ dp ⟨dq,dr,⟨⟩,ai,bl⟩;revert B p hA hbm f X d hs rx sx;refine eY bl ?_;intro ds B p hA hbm f X d hs rx sx;refine ⟨B,?_⟩;refine At rfl (C1 Pi (A2 (FL (sh:=ndShape) (j:=j) (z:=x.inv q) (us:=[_,_,_,_]) Ac rfl rfl rfl rfl rfl rfl Af Ab Ab Ab ⟨_,_,rfl,iR Af (λb h=>by omega)⟩) (BA ?_)));rintro _ dt ⟨du,aj,dv⟩;revert ai p;refine eZ aj ?_;intro dw ai p;clear hA;revert hbm f X d hs rx sx;refine eF aj ?_;intro hbm f X d hs rx sx;refine Ak (Ah (Ai (Al (C1 V7 (C1 Mv (Ak ?_))))));rotate_left
          all_goals exact Aw (j+1) sC ⟨Ab,by rw [<-hnext];exact jn Af Ab,hbm,d,f,hs,X,Ab⟩ Ab
        . have hfx:C8 q k l[j]=l[j]:=by unfold C8;rw [AB hk]
          rw [hfx] at hnext;clear HX hfx;generalize l[j]=x at *;have e3:¬k=57:=λe=>hk (gq e)
          have e4:¬x.kind=57:=λe=>hk (gt e)
          have HX2:=gp (Jl x Ab);refine eK ?_;refine eA [_,_,_,_] ?_;intro e5 e6 ci cj e7 e8;revert hA hbm f X d hs rx sx;refine eE cj ?_;intro hA hbm f X d hs rx sx;refine C1 Pa (eS [_,_,_,_] ci ?_);intro bn E bo dx;revert hA hbm f X d hs rx sx;refine eF bo ?_;intro hA hbm f X d hs rx sx;refine eK ?_;refine Aq (λwz=>Ext bn wz) 5 (.pure 0 (.pure 1 (.pure 2 (.pure 3 (.fork 4 .tail .none))))) mixed AT (Ae (Aa (Aa (Ae (Aa Ag))))) ?_;intro bp ak _;have F:(λwz=>Ext bn wz) bp:=ak;simp only at F;have ab:=E;have I:=hA;have i:=hbm;have v:=f;have A:=d;have T:=hs;have ae:=rx;have J:=sx;revert E hA hbm f X d hs rx sx;refine eY ak ?_;intro dy E hA hbm f X d hs rx sx;refine ⟨F,?_⟩;refine eT ?_;refine Tq rfl (xL [_,_,_,_] (λwz hz=>(iW ab hz))) ?_;refine tC rfl rfl (HX2.out _ _ _ _ Af) ?_;rintro _ dz ⟨d0,d1,⟨⟩,al,bq⟩;revert F E hA hbm f X d hs rx sx;refine eY bq ?_;intro d2 F E hA hbm f X d hs rx sx;refine ⟨F,?_⟩;refine At rfl (C1 Pi (A2 (FL (sh:=ndShape) (j:=j) (z:=x) (us:=[_,_,_,_]) Ac rfl rfl rfl rfl rfl rfl Af Ab Ab Ab ⟨_,_,rfl,iR Af (λb h=>by omega)⟩) (BA ?_)));rintro _ d3 ⟨d4,am,d5⟩;revert al E;refine eZ am ?_;intro d6 al E;clear hA;revert hbm f X d hs rx sx;refine eF am ?_;intro hbm f X d hs rx sx;refine Ak (Ah (Ai (Al (C1 V7 (C1 Mv (Ak ?_))))))
          all_goals exact Aw (j+1) sB ⟨Ab,by rw [<-hnext];exact jn Af Ab,hbm,d,f,hs,X,Ab⟩ Ab
      . obtain rfl:j=l.length:=by omega
        rw [RM] at hA;refine cS (C1 V3 (cT (Aj (C6 (BF (Av (Av (AO ?_))))))));exact BS () sB ⟨hA,hbm,d,f,X,hz⟩
    . clear hA hbm d f hs X hz e0 HC;rintro _ w3 ⟨hA,hbm,d,f,X,hz⟩;have hxl:(l.map (C8 q k)).length=l.length:=by simp
      by_cases k57:k=57
      . subst k57;have ht:(Nd.mk 57 n s l).inv q = .mk 57 n s (Ca q l).reverse:=by
         conv=>lhs;unfold Nd.inv
         rw [AQ rfl]
        rw [ht,RJ];generalize l.map (C8 q 57)=xs at *;rw [<-hxl] at hbm;refine eK ?_;refine C1 (AK rfl rfl (gz _ Ab)) ?_;refine eK ?_;refine cC rfl (Uv (b1+4) _ _ _ _ _ Af (gq Ab) Ab) ?_;rintro _ e9 ⟨⟨⟩,ax,br⟩;revert f X d hbm;refine eZ br ?_;intro fa f X d hbm;clear hA br;refine eK ?_;refine eS [_,_,_,_] f ?_;intro fb ck cl fc;revert ax X d hbm;refine eF cl ?_;intro ax X d hbm;refine eK ?_;refine xC ck ?_;exact DB AN (ax.wide Ab) Ab Ab X
      rw [PN q k57];by_cases k5:k=52\/k=53\/k=54
      . rw [AQ k5];have hne:=v2 k5;generalize l.map (C8 q k)=xs at *;have hpos:0<xs.length:=by rw [hxl];exact List.length_pos_iff.2 hne
        obtain ⟨x,hx⟩:∃x,xs[0]? = some x:=⟨_,gm hpos⟩;obtain ⟨y,hy⟩:∃y,xs[xs.length-1]? = some y:=⟨_,gm Ab⟩;obtain ⟨_,r1,xa,xc,rfl,sx⟩:=hA.row hx;obtain ⟨_,r2,ya,yc,rfl,sy⟩:=hA.row hy;have em:((xs.length:Int)-1).toNat=xs.length-1:=by omega
        have hsw:Ge xs=(xs.set 0 y).set ((xs.length:Int)-1).toNat x:=by
         unfold Ge;rw [em,gY,gY,hx,hy];rfl
        rw [hsw];have hsl:((xs.set 0 y).set ((xs.length:Int)-1).toNat x).length=xs.length:=by simp
        replace r1:Row w3 ⟨g,0+0*4,none⟩ (x.cells xa xc):=r1;replace r2:Row w3 ⟨g,0+((xs.length:Int)-1).toNat*4,none⟩ (y.cells ya yc):=by rw [em];exact r2
        rw [<-hxl] at hbm;clear hx hy hsw;rcases k5 with rfl|rfl|rfl
        . focus
           refine eK ?_;refine C1 (AK rfl rfl (gz _ Ab)) ?_;refine eK ?_;refine EM (λwz=>Ext w3 wz) (λwz=>Fr (λx=>x=g) w3 wz) [2,3,4,15,16,17] [2,3,4] 15 16 (.free 2 (.free 3 (.free 4 (.pure 0 (.pure 1 (.pure 5 (.pure 6 (.pure 7 (.pure 8 (.pure 9 (.pure 10 (.pure 11 (.pure 12 (.pure 13 (.pure 14 (.put 15 (.tail 16))))))))))))))))) (λ_ h=>iM h) mixed AT (Ae (Aa Ag)) ?_;intro bs ay _;have bt:(λwz=>Ext w3 wz) bs:=ay;simp only at bt;have W:(λwz=>Fr (λx=>x=g) w3 wz) bs:=iM ay;simp only at W;have v:=f;have I:=hA;have J:=sx;have an:=sy;have L:=r1;have M:=r2;have A:=d;have i:=hbm;revert f X hA sx sy r1 r2 d hbm;refine eY ay ?_;intro fd f X hA sx sy r1 r2 d hbm;refine Bl Af rfl (AZ Ac rfl rfl rfl) rfl (Bl Af rfl (Ap Ac rfl rfl rfl (λwz hz=>iV (iO i hz Ab) rfl)) rfl (Bl Af rfl (Ar rfl) rfl (An Af rfl (AZ Ac rfl rfl rfl) rfl (An Af rfl (Ap Ac rfl rfl rfl (λwz hz=>iV (iW i hz) rfl)) rfl (An Af rfl (AZ Ac rfl rfl rfl) rfl (An Af rfl (Ap Ac rfl rfl rfl (λwz hz=>iV (iW i hz) rfl)) rfl (An Af rfl (Ar rfl) rfl (An Af rfl (AC Ac rfl rfl rfl rfl Ab Ab) rfl (An Af rfl (BE Ac rfl rfl rfl (λwz hz=>(iN M hz)) rfl) rfl (An Af rfl (AZ Ac rfl rfl rfl) rfl (An Af rfl (Ap Ac rfl rfl rfl (λwz hz=>iV (iW i hz) rfl)) rfl ?_)))))))))))
           refine An Af rfl (AC Ac rfl rfl rfl rfl Ab Ab) rfl (An Af rfl (CK [_,_,_,_] Ac rfl rfl rfl (λwz hz=>(iN L hz)) rfl rfl) rfl (An Af rfl (AC Ac rfl rfl rfl rfl Ab Ab) rfl (Du rfl (B7 (sh:=ndShape) (j:=0) (z:=y) (us:=[_,_,_,_]) Ac rfl rfl rfl rfl rfl rfl Af Ab (gq Ab) ⟨_,_,rfl,Af⟩) (BA ?_))));rintro _ fe ⟨ff,az,fg⟩;revert W f X;refine eZ az ?_;intro d7 W f X;clear hA;revert sx sy;refine eF az ?_;intro sx sy;revert d hbm;refine eF az ?_;intro d hbm;refine ⟨Af,?_⟩;refine Dt rfl (C1 Pi (A2 (B7 (sh:=ndShape) (j:=((xs.length:Int)-1).toNat) (z:=x) (us:=[_,_,_,_]) Ac rfl rfl rfl rfl rfl rfl Af (by rw [List.length_set];omega) (gq Ab) ⟨_,_,rfl,Af⟩) (BA ?_)));rintro _ d8 ⟨ao,ap,d9⟩;have ea:=ap.size;revert f X sx sy d hbm;refine eF ap ?_;intro f X sx sy d hbm;refine eK ?_;refine eS [_,_,_,_] f ?_;intro eb bu bv ec;revert ao X sx sy d hbm;refine eF bv ?_;intro ao X sx sy d hbm;refine eK ?_;refine xC bu ?_;rotate_left
          exact DB hsl (jn Af Ab) Ab Ab X
        . focus
           refine eK ?_;refine C1 (AK rfl rfl (gz _ Ab)) ?_;refine eK ?_;refine EM (λwz=>Ext w3 wz) (λwz=>Fr (λx=>x=g) w3 wz) [2,3,4,15,16,17] [2,3,4] 15 16 (.free 2 (.free 3 (.free 4 (.pure 0 (.pure 1 (.pure 5 (.pure 6 (.pure 7 (.pure 8 (.pure 9 (.pure 10 (.pure 11 (.pure 12 (.pure 13 (.pure 14 (.put 15 (.tail 16))))))))))))))))) (λ_ h=>iM h) mixed AT (Ae (Aa Ag)) ?_;intro bw a0 _;have bx:(λwz=>Ext w3 wz) bw:=a0;simp only at bx;have Y:(λwz=>Fr (λx=>x=g) w3 wz) bw:=iM a0;simp only at Y;have v:=f;have I:=hA;have J:=sx;have an:=sy;have L:=r1;have M:=r2;have A:=d;have i:=hbm;revert f X hA sx sy r1 r2 d hbm;refine eY a0 ?_;intro fh f X hA sx sy r1 r2 d hbm;refine Bl Af rfl (AZ Ac rfl rfl rfl) rfl (Bl Af rfl (Ap Ac rfl rfl rfl (λwz hz=>iV (iO i hz Ab) rfl)) rfl (Bl Af rfl (Ar rfl) rfl (An Af rfl (AZ Ac rfl rfl rfl) rfl (An Af rfl (Ap Ac rfl rfl rfl (λwz hz=>iV (iW i hz) rfl)) rfl (An Af rfl (AZ Ac rfl rfl rfl) rfl (An Af rfl (Ap Ac rfl rfl rfl (λwz hz=>iV (iW i hz) rfl)) rfl (An Af rfl (Ar rfl) rfl (An Af rfl (AC Ac rfl rfl rfl rfl Ab Ab) rfl (An Af rfl (BE Ac rfl rfl rfl (λwz hz=>(iN M hz)) rfl) rfl (An Af rfl (AZ Ac rfl rfl rfl) rfl (An Af rfl (Ap Ac rfl rfl rfl (λwz hz=>iV (iW i hz) rfl)) rfl ?_)))))))))))
           refine An Af rfl (AC Ac rfl rfl rfl rfl Ab Ab) rfl (An Af rfl (CK [_,_,_,_] Ac rfl rfl rfl (λwz hz=>(iN L hz)) rfl rfl) rfl (An Af rfl (AC Ac rfl rfl rfl rfl Ab Ab) rfl (Du rfl (B7 (sh:=ndShape) (j:=0) (z:=y) (us:=[_,_,_,_]) Ac rfl rfl rfl rfl rfl rfl Af Ab (gq Ab) ⟨_,_,rfl,Af⟩) (BA ?_))));rintro _ fi ⟨fj,a1,fk⟩;revert Y f X;refine eZ a1 ?_;intro ed Y f X;clear hA;revert sx sy;refine eF a1 ?_;intro sx sy;revert d hbm;refine eF a1 ?_;intro d hbm;refine ⟨Af,?_⟩;refine Dt rfl (C1 Pi (A2 (B7 (sh:=ndShape) (j:=((xs.length:Int)-1).toNat) (z:=x) (us:=[_,_,_,_]) Ac rfl rfl rfl rfl rfl rfl Af (by rw [List.length_set];omega) (gq Ab) ⟨_,_,rfl,Af⟩) (BA ?_)));rintro _ ee ⟨aq,ar,ef⟩;have eg:=ar.size;revert f X sx sy d hbm;refine eF ar ?_;intro f X sx sy d hbm;refine eK ?_;refine eS [_,_,_,_] f ?_;intro eh bz b0 ei;revert aq X sx sy d hbm;refine eF b0 ?_;intro aq X sx sy d hbm;refine eK ?_;refine xC bz ?_;rotate_left
          exact DB hsl (jn Af Ab) Ab Ab X
        . focus
           refine eK ?_;refine C1 (AK rfl rfl (gz _ Ab)) ?_;refine eK ?_;refine EM (λwz=>Ext w3 wz) (λwz=>Fr (λx=>x=g) w3 wz) [2,3,4,15,16,17] [2,3,4] 15 16 (.free 2 (.free 3 (.free 4 (.pure 0 (.pure 1 (.pure 5 (.pure 6 (.pure 7 (.pure 8 (.pure 9 (.pure 10 (.pure 11 (.pure 12 (.pure 13 (.pure 14 (.put 15 (.tail 16))))))))))))))))) (λ_ h=>iM h) mixed AT (Ae (Aa Ag)) ?_;intro b2 a2 _;have b3:(λwz=>Ext w3 wz) b2:=a2;simp only at b3;have Z:(λwz=>Fr (λx=>x=g) w3 wz) b2:=iM a2;simp only at Z;have v:=f;have I:=hA;have J:=sx;have an:=sy;have L:=r1;have M:=r2;have A:=d;have i:=hbm;revert f X hA sx sy r1 r2 d hbm;refine eY a2 ?_;intro fl f X hA sx sy r1 r2 d hbm;refine Bl Af rfl (AZ Ac rfl rfl rfl) rfl (Bl Af rfl (Ap Ac rfl rfl rfl (λwz hz=>iV (iO i hz Ab) rfl)) rfl (Bl Af rfl (Ar rfl) rfl (An Af rfl (AZ Ac rfl rfl rfl) rfl (An Af rfl (Ap Ac rfl rfl rfl (λwz hz=>iV (iW i hz) rfl)) rfl (An Af rfl (AZ Ac rfl rfl rfl) rfl (An Af rfl (Ap Ac rfl rfl rfl (λwz hz=>iV (iW i hz) rfl)) rfl (An Af rfl (Ar rfl) rfl (An Af rfl (AC Ac rfl rfl rfl rfl Ab Ab) rfl (An Af rfl (BE Ac rfl rfl rfl (λwz hz=>(iN M hz)) rfl) rfl (An Af rfl (AZ Ac rfl rfl rfl) rfl (An Af rfl (Ap Ac rfl rfl rfl (λwz hz=>iV (iW i hz) rfl)) rfl ?_)))))))))))
           refine An Af rfl (AC Ac rfl rfl rfl rfl Ab Ab) rfl (An Af rfl (CK [_,_,_,_] Ac rfl rfl rfl (λwz hz=>(iN L hz)) rfl rfl) rfl (An Af rfl (AC Ac rfl rfl rfl rfl Ab Ab) rfl (Du rfl (B7 (sh:=ndShape) (j:=0) (z:=y) (us:=[_,_,_,_]) Ac rfl rfl rfl rfl rfl rfl Af Ab (gq Ab) ⟨_,_,rfl,Af⟩) (BA ?_))));rintro _ fm ⟨fn,a3,fo⟩;revert Z f X;refine eZ a3 ?_;intro ej Z f X;clear hA;revert sx sy;refine eF a3 ?_;intro sx sy;revert d hbm;refine eF a3 ?_;intro d hbm;refine ⟨Af,?_⟩;refine Dt rfl (C1 Pi (A2 (B7 (sh:=ndShape) (j:=((xs.length:Int)-1).toNat) (z:=x) (us:=[_,_,_,_]) Ac rfl rfl rfl rfl rfl rfl Af (by rw [List.length_set];omega) (gq Ab) ⟨_,_,rfl,Af⟩) (BA ?_)));rintro _ ek ⟨au,av,el⟩;have en:=av.size;revert f X sx sy d hbm;refine eF av ?_;intro f X sx sy d hbm;refine eK ?_;refine eS [_,_,_,_] f ?_;intro eo b4 b5 ep;revert au X sx sy d hbm;refine eF b5 ?_;intro au X sx sy d hbm;refine eK ?_;refine xC b4 ?_;rotate_left
          exact DB hsl (jn Af Ab) Ab Ab X
      . rw [AB k5];generalize l.map (C8 q k)=xs at *;have fp:¬k=52:=λe=>k5 (gq e)
        have fq:¬k=53:=λe=>k5 (gt (gq e))
        have fs:¬k=54:=λe=>k5 (gt (gt e))
        by_cases k6:k=50\/k=51
        . rw [AQ k6];cases q
          . simp only [iE,if_false];rcases k6 with rfl|rfl
            . refine eK ?_;refine C1 (AK rfl rfl (gz _ Ab)) ?_;refine eK ?_;refine cC rfl (Hg _ _ Ab Ab) ?_;rintro _ ft ⟨⟨⟩,rfl⟩;refine C1 Pg (eV [_] [_,_,_,_] hbm ?_);intro fu b6 cm fv;clear hbm;revert f X hA d;refine eF cm ?_;intro f X hA d;refine eK ?_;refine eS [_,_,_,_] f ?_;intro fw b7 cn eq;revert b6 X hA d;refine eF cn ?_;intro b6 X hA d;refine eK ?_;refine xC b7 ?_;exact DB hxl (jn Af Ab) Ab Ab X
            . refine eK ?_;refine C1 (AK rfl rfl (gz _ Ab)) ?_;refine eK ?_;refine cC rfl (Hg _ _ Ab Ab) ?_;rintro _ fx ⟨⟨⟩,rfl⟩;refine C1 Pg (eV [_] [_,_,_,_] hbm ?_);intro fy b9 co fz;clear hbm;revert f X hA d;refine eF co ?_;intro f X hA d;refine eK ?_;refine eS [_,_,_,_] f ?_;intro f0 ca cp er;revert b9 X hA d;refine eF cp ?_;intro b9 X hA d;refine eK ?_;refine xC ca ?_;exact DB hxl (jn Af Ab) Ab Ab X
          . simp only [if_true];rcases k6 with rfl|rfl
            . refine eK ?_;refine C1 (AK rfl rfl (gz _ Ab)) ?_;refine eK ?_;refine eS [_,_,_,_] f ?_;intro f1 cq cr f2;revert X hA hbm d;refine eF cr ?_;intro X hA hbm d;refine eK ?_;refine xC cq ?_;exact DB hxl (jn Af Ab) Ab Ab X
            . refine eK ?_;refine C1 (AK rfl rfl (gz _ Ab)) ?_;refine eK ?_;refine eS [_,_,_,_] f ?_;intro f3 cs ct f4;revert X hA hbm d;refine eF ct ?_;intro X hA hbm d;refine eK ?_;refine xC cs ?_;exact DB hxl (jn Af Ab) Ab Ab X
        . rw [AB k6];have f5:¬k=50:=λe=>k6 (gq e)
          have f6:¬k=51:=λe=>k6 (gt e)
          refine eK ?_;refine C1 (AK rfl rfl (gz _ Ab)) ?_;refine eK ?_;refine cC rfl (Hg _ _ Ab Ab) ?_;rintro _ f7 ⟨⟨⟩,rfl⟩;refine C1 Pg (eV [_] [_,_,_,_] hbm ?_);intro f8 cb cu f9;clear hbm;revert d f X hA;refine eF cu ?_;intro d f X hA;refine eK ?_;refine eS [_,_,_,_] f ?_;intro ga cc cv es;revert cb d X hA;refine eF cv ?_;intro cb d X hA;refine eK ?_;refine xC cc ?_;exact DB hxl (jn Af Ab) Ab Ab X
structure OwnM {α:Type} (sh:Shape α) (w:wD) (R:nP) (B:Nat) (e:TypeId) (v:Value) (xs:List α):Prop where
 ex:∃css:List lV,Own w B e sh.sz v xs.length css.flatten/\css.length=xs.length /\ ∀(i:Nat) (x:α) (cs:lV),xs[i]? = some x->css[i]? = some cs->sh.rep w (λb=>(R b\/B<=b)/\v.ownBlock≠some b) x cs
section
variable {α:Type} {sh:Shape α} {R:nP} {B e:Nat} {w w':wD} {v:Value} {xs:List α}
def OwnM.rows (h:OwnM sh w R B e v xs) (Z:xs≠[]):∃g cap,v = .slice (some ⟨g,0,none⟩) xs.length cap/\B<=g /\ ∀(i:Nat) (x:α),xs[i]? = some x -> ∃cs,Row w ⟨g,i*sh.sz,none⟩ cs/\sh.rep w (λb=>R b\/B<=b) x cs:=by
 obtain ⟨G,h1,h2,Y⟩:=h.ex;rcases h1.row with ⟨rfl,hn,-⟩|⟨g,cap,rfl,hg,aa,hr⟩
 . exact absurd (List.length_eq_zero_iff.1 hn) Z
 . refine ⟨g,cap,rfl,hg,λi x O=>?_⟩;have ab:i<xs.length:=by
    rcases gK i xs.length with h|h
    . exact h
    . rw [gG h] at O;cases O
   have hc:G[i]? = some G[i]:=gm Ab;have M:∀cs∈G,cs.length=sh.sz:=λcs U=>by
    obtain ⟨k,hk,rfl⟩:=List.mem_iff_getElem.1 U;exact sh.len (Y k xs[k] G[k] (gm Ab) (gm hk))
   obtain ⟨e1,e2⟩:=Fq M (show i<G.length by omega);refine ⟨G[i],λj u V=>?_,sh.mono (Y i x _ O hc) (λ_ h=>h.1) (λ_ _ _ _ h=>h)⟩;have X:j<G[i].length:=by
    rcases gK j G[i].length with h|h
    . exact h
    . rw [gG h] at V;cases V
   have N:G.flatten[i*sh.sz+j]? = some u:=by
    rw [e1,gZ,gU Ab,e2,Nat.add_sub_cancel_left,gJ X];exact V
   have:=hr.at (i:=i*sh.sz+j) N;have e:(⟨g,i*sh.sz,none⟩:Addr).add j=⟨g,0+(i*sh.sz+j),none⟩:=by unfold iC;by_cases h0:j=0<;>simp [h0]
   rw [e];exact this
end
def Dv {P:Program} {n:Nat} {l:Sl} {w:wD} {Q:Exit->Act->wD->Prop} {x y:Code} {ι:Type} (L:ι->Sl) (I:ι->wD->Prop) (h:CW P n x (Exit.then (λa w=> ∃i,Env n (L i) a/\I i w) Q) l w) (k:∀i w,I i w->CW P n y Q (L i) w):CW P n x (Exit.then (Code.wp P y Q) Q) l w:=by
 unfold CW at h k ⊢;intro a G;refine Code.wp_mono (λe a w q=>?_) (h a G);cases e with
 | normal=>
  obtain ⟨i,M,N⟩:=q;exact k i w N a M
 | _=>exact q
def Ol (v:VD):v.cells.length=3:=rfl
def aI (v:VD):v.cells.all i6=true:=rfl
def PQ {S:nP} {w:wD} {l:List VD} {a:oA} (h:VDs S w l a):Rows S w (l.flatMap VD.cells) a:=by
 rcases h with h|⟨b,o,G,M,N⟩
 . subst h;exact gq rfl
 . exact gt ⟨b,o,G,M,Nl Ol l o (λi x O=>N i x O)⟩
def LN {S:nP} {w:wD} {l:List VD} {a:oA} (h:Rows S w (l.flatMap VD.cells) a):VDs S w l a:=by
 cases l with
 | nil=>exact gq rfl
 | cons v r=>
  rcases h with h|⟨b,o,G,M,N⟩
  . simp at h
  . exact gt ⟨b,o,G,M,λi x O=>Nm Ol (v::r) o N i x O⟩
def VCopyR (l:List VD) (w:wD):Ending->wD->Prop:=λe w'=> ∃a c,e = .returned (.slice a l.length c)/\VDs (λb=>w.heap.size<=b/\b<w'.heap.size) w' l a/\Ext w w'/\l.length<=c
def VCopyR.ret {l:List VD} {w:wD} {e:Ending} {w':wD} (h:VCopyR l w e w'):∃v,e = .returned v:=by
 obtain ⟨_,_,h,-⟩:=h;exact ⟨_,h⟩
def RO {w w':wD} (X:Ext w w'):VCopyR [] w (.returned (.slice none 0 0)) w':=⟨none,0,rfl,gq rfl,X,gI _⟩
def RP {l:List VD} {e B g cap m:Nat} {w w':wD} (G:0+l.length=m) (h:OwnF e 3 B w' g cap m ([]++l.flatMap VD.cells)) (M:w.heap.size<=g) (X:Ext w w'):VCopyR l w (.returned (.slice (some ⟨g,0,none⟩) m cap)) w':=by
 have N:=h.lt;subst G;exact ⟨some ⟨g,0,none⟩,cap,by rw [iu],LN (h.rows ⟨M,N⟩),X,by have:=h.le;omega⟩
def If (l:List VD) (hl:l.length<=1000000000) (S:nP) (a:oA) (c:Nat) (w:wD) (G:VDs S w l a) :
 Calls prog 58 #[.slice a l.length c] w (VCopyR l w):=by
 have X:=iK w;have hd:=Hc Ol l;have ho:=KA aI l;cases a with
 | none=>
  have h0:l=[]:=by
   rcases G with h|⟨b,o,h,-⟩
   . exact h
   . cases h
  subst h0;refine Ad func58 ntmps58 rfl rfl (eK ?_);refine C1 (Lz Ac rfl rfl) (kR ?_);exact RO X
 | some p=>
  have G:=(PQ G).ltA;refine Ad func58 ntmps58 rfl rfl (eK ?_);refine C1 (LA Ac rfl rfl) (eK ?_);refine Ax (GF (B:=w.heap.size) Ac rfl rfl Ab) rfl ?_ aFh;rintro _ ab ⟨ac,rfl,ad,ae,af,O⟩;revert X G;refine eE O ?_;intro X G;refine C1 Mv (Ax (GG Ac Cs rfl rfl rfl rfl AT rfl rfl rfl Af Af hd ho Ab) rfl ?_ aFh);rintro _ U ⟨V,N,rfl,Y,Z,aa,M⟩;have X:=X.fr M Ab;refine kR ?_;exact RP rfl Af Ab X
end Bk
namespace Bk
open Go Go.RowKit
def WF (r:Option Nat):Fence:={ Fence.wide with round:=r }
section base
variable {P:Program} {r:Option Nat} {m:Nat} {Q:Exit->Act->wD->Prop}
def wf_calls {f:FuncId} {args:Array Value} {w:wD} {R:Ending->wD->Prop}:CallsIn (WF r) m P f args w R↔Calls P f args w R:=callsIn_wide (n:=m)
def Jm {p:Prop} (h:(WF r).depth.isSome=true):p:=by simp [WF,Fence.wide] at h
def Yr {row:String} {args:Array Value} {w:wD} {R:Value->wD->Prop} (h:Go.Rows P row args w R):RowsIn (WF r) m P row args w R:=λc cs _=>
 let ⟨v,w',hR,hs⟩:=h c cs
 ⟨v,w',hR,stepsIn_wide.2 hs⟩
def Gi (o:Oper):Bool:=match o.op with
 | .defer _=>false
 | _=>true
def Wd {o:Oper} (h:Gi o=true):∀c,o.op≠.defer c:=λc e=>by simp [Gi,e] at h
def Ta {o:Oper} {a:Act} {w:wD} {K:Act->wD->Prop} (G:Gi o=true) (h:o.wp P a w K Q):o.wpIn (WF r) m P a w K Q:=by
 refine ⟨λ_ _=>trivial,?_⟩;rw [Oper.semAt_eq _ _ _ (Wd G)];unfold iB at h;generalize (execOp a.eval o).run P w=x at h;cases x with
 | ok v w'=>cases v<;>simp only [Oper.upon] at h<;>simp only [Oper.uponIn]<;>first
  | exact h
  | exact h.elim
  | exact ⟨Jm,wf_calls.2 (ir h (λe w h=>by cases e<;>exact h))⟩
  | exact ⟨Jm,Yr h⟩
 | halt v w'=>cases v<;>simp only [Oper.upon] at h<;>simp only [Oper.uponIn]<;>first|exact h|exact h.elim
def Om {ops:Array Oper} (N:¬LetsOut Q):∀(G:List Oper) (a:Act) (w:wD),G.all Gi=true->wpList P ops Q G a w->wpListIn (WF r) m P ops Q G a w
 | [],_,_,_,h=>h
 | o::G,a,w,M,h=>by
  simp only [List.all_cons,gu] at M;unfold wpList at h;unfold wpListIn;by_cases O:Region.wanted o (yielded ops a.tmps)=true
  . rw [AQ O] at h ⊢;rcases h with h|h
    . exact Oper.wpIn_mono (λa w h=>Om N G a w M.2 h) (Ta M.1 h)
    . exact absurd h.2 N
  . rw [AB O] at h ⊢;exact ⟨λ_ _=>trivial,Om N G _ w M.2 h⟩
def Bt {K:Act->wD->Prop} (h:¬LetsOut Q):¬LetsOut (Exit.then K Q):=h
def Bw {i:Nat} (h:¬LetsOut Q):¬LetsOut (Exit.inBlock i Q):=h
end base
def CR (P:Program) (n:Nat) (r:Option Nat) (c:Code) (Q:Exit->Act->wD->Prop) (l:Sl) (w:wD):Prop:= ∀a,Env n l a->c.wpIn (WF r) 0 P Q a w
section code
variable {P:Program} {n:Nat} {r:Option Nat} {Q:Exit->Act->wD->Prop} {l:Sl} {w:wD}
def Tb {c:Code} (h:CR P n none c Q l w):CW P n c Q l w:=by unfold CW;exact λa G=>wpIn_wide.1 (h a G)
def dB {c:Code} (h:CW P n c Q l w):CR P n none c Q l w:=by unfold CW at h;exact λa G=>wpIn_wide.2 (h a G)
def C9 {x y:Code} (h:CR P n r x (Exit.then (y.wpIn (WF r) 0 P Q) Q) l w):CR P n r (.seq x y) Q l w:=λa G=>wpIn_seq (h a G)
def Cl {y:Code} (h:CR P n r y Q l w):QW n (Exit.then (y.wpIn (WF r) 0 P Q) Q) .normal l w:=by unfold QW;exact h
def FN (h:QW n Q .normal l w):CR P n r .skip Q l w:=by unfold QW at h;exact λa G=>wpIn_skip (h a G)
def Ys {i:Nat} (h:QW n Q (.exit i) l w):CR P n r (.exit i) Q l w:=by unfold QW at h;exact λa G=>wpIn_exit (h a G)
def We (h:QW n Q .ret l w):CR P n r .ret Q l w:=by unfold QW at h;exact λa G=>wpIn_ret (h a G)
def Gj {i:Nat} {c:Code} (h:CR P n r c (Exit.inBlock i Q) l w):CR P n r (.block i c) Q l w:=λa G=>wpIn_block (h a G)
def Tc {c:Operand} {x y:Code} {b:Bool} (G:ev l c=some (.bool b)) (M:b=true->CR P n r x Q l w) (N:b=false->CR P n r y Q l w):CR P n r (.cond c x y) Q l w:=
 λa h=>wpIn_cond_split (h.ev G) (λe=>M e a h) (λe=>N e a h)
def Bp {M:Nat} {G:List Oper} (N:G.all Gi=true) (O:¬LetsOut Q) (h:LW P n G.toArray Q G l w):CR P n r (.region M G.toArray false) Q l w:=by unfold LW at h;exact λa U=>wpIn_region_lit (Om O G a w N (h a U))
end code
section draw
variable {P:Program} {ops:Array Oper} {Q:Exit->Act->wD->Prop} {S:wD->Prop} {K:Nat}
def GK (P:Program) (ops:Array Oper) (Q:Exit->Act->wD->Prop) (S:wD->Prop) (K:Nat):Nat->Array Bool->Act->wD->Prop
 | 0,listed,a,w=>gQ .any ops listed=[]/\Q .normal a w
 | fuel+1,listed,a,w=>
  (gQ .any ops listed=[]->Q .normal a w) /\
  ∀i∈gQ .any ops listed,(i<K->wpOp P ops Q i (λa' w'=>S w'/\GK P ops Q S K fuel (listed.setIfInBounds i true) a' w') a w) /\
   (K<=i->wpOpIn (WF none) 0 P ops Q i (GK P ops Q S K fuel (listed.setIfInBounds i true)) a w)
def Yt {i:Nat} {a:Act} {w:wD} {G:Act->wD->Prop} (N:¬LetsOut Q) (O:∀o,ops[i]? = some o->Gi o=true) (h:wpOp P ops Q i G a w):wpOpIn (WF none) 0 P ops Q i G a w:=by
 unfold wpOp at h;unfold wpOpIn;cases ho:ops[i]? with
 | none=>rw [ho] at h;exact h
 | some o=>
  rw [ho] at h;simp only at h ⊢;by_cases M:Region.wanted o (yielded ops a.tmps)=true
  . rw [AQ M] at h ⊢;rcases h with h|h
    . exact Ta (O o ho) h
    . exact absurd h.2 N
  . rw [AB M] at h ⊢;exact ⟨λ_ _=>trivial,h⟩
def GL (N:¬LetsOut Q) (O:∀(i:Nat) (o:Oper),ops[i]? = some o->Gi o=true):∀(G:Nat) (M:Array Bool) (a:Act) (w:wD),GK P ops Q S K G M a w->wpAnyIn (WF none) 0 P .any ops Q G M a w
 | 0,_,_,_,h=>h
 | G+1,_,_,_,h=>⟨h.1,λi X=>by
  by_cases Y:i<K
  . exact wpOpIn_mono (λU w' V=>GL N O G _ U w' V.2) (Yt N (O i) ((h.2 i X).1 Y))
  . exact wpOpIn_mono (λU w' V=>GL N O G _ U w' V) ((h.2 i X).2 Ab)⟩
def On {i:Nat} {oi:Oper} {v:Value} (hi:ops[i]? = some oi) (hK:i<K) (af:D7 ops K i) (Y:∀(j:Nat) (o:Oper) cs b,ops[j]? = some o->o.op≠.select cs b)
 (hQ:∀c a w,Q (.panic c) (a.put oi.dst v) w->Q (.panic c) a w) :
 ∀(M:Nat) (G:Array Bool) (a:Act) (w:wD),DC ops G ->
  (∀j Z,ops[j]? = some Z->j≠i->G.getD j true=false->(∀e∈Z.after,iw .any e=true->e.on≠i)->oi.apart ops Z=true) ->
  i∈gQ .any ops G->YieldsIf P ops S oi v a->S w ->
  GK P ops Q S K M (G.setIfInBounds i true) (a.put oi.dst v) w->GK P ops Q S K (M+1) G a w:=by
 intro M
 induction M with
 | zero=>
  intro G a w _ _ hr hy hS H;refine ⟨λh=>(by rw [h] at hr;cases hr),λj hj=>?_⟩;by_cases N:j=i
  . subst N;exact ⟨λ_=>hy.wpOp hi hS ⟨hS,H⟩,λh=>by omega⟩
  . have:=ready_mono hj N;rw [H.1] at this;cases this
 | succ M ih=>
  intro G a w ac O hr hy hS H;refine ⟨λh=>(by rw [h] at hr;cases hr),λj hj=>?_⟩;by_cases N:j=i
  . subst N;exact ⟨λ_=>hy.wpOp hi hS ⟨hS,H⟩,λh=>by omega⟩
  . obtain ⟨aa,Z,V,ab⟩:=mem_ready.1 hj;have U:¬G.getD i false=true:=λhc=>by
     have h0:=(mem_ready.1 hr).1;rcases gK i G.size with h'|h'
     . simp [h'] at h0 hc;rw [h0] at hc;cases hc
     . simp [iv h'] at hc
    have ag:j<K:=by
     rcases gK j K with h|h
     . exact h
     . exact absurd (af G j Z ac h V ab) U
    have h1:=(H.2 j (ready_mono hj N)).1 ag;have ad:∀e∈Z.after,iw .any e=true->e.on≠i:=λe he hb ah=>U (ah▸ab e he hb)
    have h2:=wpOp_putIf V (O j Z V N aa ad) (λcs b=>Y i oi cs b hi) (λcs b=>Y j Z cs b V) hQ hy h1;have X:∀k ok,ops[k]? = some ok->k≠i->(G.setIfInBounds j true).getD k true=false ->
     (∀e∈ok.after,iw .any e=true->e.on≠i)->oi.apart ops ok=true:=λk ok hk ai U aj=>by
     refine O k ok hk ai ?_ aj;by_cases ae:j=k
     . subst ae;exact aa
     . rw [getD_set_ne true ae] at U;exact U
    refine ⟨λ_=>wpOp_mono (λa' w' h3=>⟨h3.2.1,ih (G.setIfInBounds j true) a' w' (ac.set hj) X (ready_mono hr (Ne.symm N)) h3.1 h3.2.1 ?_⟩) h2,λh=>by omega⟩;rw [Array.setIfInBounds_comm _ _ N];exact h3.2.2
def HM (P:Program) (ops:Array Oper) (Q:Exit->Act->wD->Prop) (S:wD->Prop) (K:Nat):Sc->Act->wD->Prop
 | .done,a,w=>Q .normal a w
 | .pure i r,a,w=> ∃o v,ops.toList[i]? = some o/\YieldsIf P ops S o v a/\HM P ops Q S K r (a.put o.dst v) w
 | .fork i x r,a,w=>i<K/\wpOp P ops Q i (λa' w'=>S w'/\HM P ops Q S K x a' w') a w/\HM P ops Q S K r a w
 | .none,_,_=>True
 | .tail,a,w=>wpListIn (WF none) 0 P ops Q (ops.toList.drop K) a w
def IS:∀(f k:Nat) (G:Array Bool) (a:Act) (w:wD),K<=k->f+k=ops.size->E1 ops f k G=true->wpListIn (WF none) 0 P ops Q (ops.toList.drop k) a w->GK P ops Q S K f G a w
 | 0,k,G,a,w,V,X,M,h=>by
  have:ops.toList.drop k=[]:=List.drop_eq_nil_of_le (by simp;omega);rw [this] at h;exact ⟨by simpa [E1] using M,h⟩
 | f+1,k,G,a,w,V,X,M,h=>by
  simp only [E1,gu,beq_iff_eq] at M;have N:k<ops.toList.length:=by simp;omega
  rw [gW N] at h;refine ⟨λe=>absurd (M.1.symm.trans e) AN,λi O=>?_⟩;rw [M.1] at O;simp only [ia] at O;subst O;refine ⟨λh=>by omega,λ_=>?_⟩;have Y:ops[i]? = some ops.toList[i]:=by simp
  unfold wpListIn at h;unfold wpOpIn;rw [Y];simp only;split
  . rename_i U;rw [AQ U] at h;exact Oper.wpIn_mono (λZ w' h'=>IS f (i+1) _ Z w' Ab Ab M.2 h') h
  . rename_i U;rw [AB U] at h;exact ⟨h.1,IS f (i+1) _ _ w Ab Ab M.2 h.2⟩
def HM.any (hs:Region.noSelect ops=true) (O:∀i,i<K->D7 ops K i) (hQ:C5 Q) :
 ∀(s:Sc) (f:Nat) (G:Array Bool) (a:Act) (w:wD),DC ops G->S w->HM P ops Q S K s a w ->
  (Sc.ok ops K true s f G=true->GK P ops Q S K f G a w) /\
  (Sc.ok ops K false s f G=true -> ∀i∈s.alts,∀f',f=f'+1->i<K/\wpOp P ops Q i (λZ w'=>S w'/\GK P ops Q S K f' (G.setIfInBounds i true) Z w') a w)
 | .done,f,G,a,w,N,U,h=>by
  refine ⟨λM=>?_,λM=>by simp [Sc.ok] at M⟩;have X:gQ .any ops G=[]:=by simpa [Sc.ok] using M
  cases f with
  | zero=>exact ⟨X,h⟩
  | succ f=>exact ⟨λ_=>h,by rw [X];simp⟩
 | .none,f,G,a,w,N,U,h=>⟨λM=>by simp [Sc.ok] at M,λM=>by simp [Sc.alts]⟩
 | .tail,f,G,a,w,N,U,h=>⟨λM=>by
  simp only [Sc.ok,gu] at M;exact IS f K G a w (gI _) (ip M.1) M.2 h,λM=>by simp [Sc.ok] at M⟩
 | .pure i r,0,G,a,w,N,U,h=>⟨λM=>by simp [Sc.ok] at M,λM=>by simp [Sc.ok] at M⟩
 | .pure i r,f+1,G,a,w,N,U,h=>⟨λM=>by
  simp only [Sc.ok,gu] at M;obtain ⟨o,v,ho,hy,X⟩:=h;have hi:ops[i]? = some o:=by simpa using ho
  have V:i∈gQ .any ops G:=by simpa using M.1.1.2
  exact On hi (gS M.1.1.1) (O i (gS M.1.1.1)) (Region.noSelect_spec hs) (λc a w=>hQ o.dst v c a w) f G a w N (Region.free_spec hi M.1.2) V hy U
   ((HM.any hs O hQ r f _ _ w (N.set V) U X).1 M.2),λM=>by simp [Sc.ok] at M⟩
 | .fork i x r,0,G,a,w,N,U,h=>⟨λM=>by simp [Sc.ok] at M,λM=>by simp [Sc.ok] at M⟩
 | .fork i x r,f+1,G,a,w,N,U,h=>by
  have key:i∈gQ .any ops G->Sc.ok ops K true x f (G.setIfInBounds i true)=true->wpOp P ops Q i (λZ w'=>S w'/\GK P ops Q S K f (G.setIfInBounds i true) Z w') a w:=λV M=>
   wpOp_mono (λZ w' h'=>⟨h'.1,(HM.any hs O hQ x f _ Z w' (N.set V) h'.1 h'.2).1 M⟩) h.2.1
  have X:=HM.any hs O hQ r (f+1) G a w N U h.2.2;refine ⟨λM=>?_,λM j Y f' hf=>?_⟩
  . simp only [Sc.ok,gu] at M;obtain ⟨⟨⟨h1,h4⟩,h2⟩,h3⟩:=M;refine ⟨λe=>by rw [e] at h4;simp at h4,λj Y=>?_⟩;have:=List.all_eq_true.1 h1 j Y;simp only [List.contains_eq_mem,ik,decide_eq_true_eq] at this;rcases this with rfl|aa
    . exact ⟨λ_=>key Y h2,λhK=>absurd h.1 Ab⟩
    . obtain ⟨k1,k2⟩:=X.2 h3 j aa f rfl;exact ⟨λ_=>k2,λhK=>by omega⟩
  . simp only [Sc.ok,gu] at M;obtain rfl:f=f':=by omega
    simp only [Sc.alts,ik] at Y;rcases Y with rfl|Y
    . exact ⟨h.1,key (by simpa using M.1.1) M.1.2⟩
    . exact X.2 M.2 j Y f rfl
end draw
def MW (P:Program) (n:Nat) (ops:Array Oper) (Q:Exit->Act->wD->Prop) (S:wD->Prop) (K:Nat) (s:Sc) (l:Sl) (w:wD):Prop:= ∀a,Env n l a->HM P ops Q S K s a w
def LI (P:Program) (n:Nat) (ops:Array Oper) (Q:Exit->Act->wD->Prop) (os:List Oper) (l:Sl) (w:wD):Prop:= ∀a,Env n l a->wpListIn (WF none) 0 P ops Q os a w
section draws
variable {P:Program} {n:Nat} {ops:Array Oper} {Q:Exit->Act->wD->Prop} {S:wD->Prop} {K:Nat} {l:Sl} {w:wD}
 {d i:Nat} {ty:TypeId} {pos:String} {after:Array Edge} {r x:Sc} {rest:List Oper}
def PR {X:Nat} {G:List Oper} (S:wD->Prop) (K:Nat) (s:Sc) (Y:P.follows .mixedOrders=true) (M:(Region.noSelect G.toArray&&II G.toArray K&&gM K G.length&&G.all Gi&&Sc.ok G.toArray K true s G.length (iD G.length false))=true) (Z:C5 Q) (hL:¬LetsOut Q)
 (h:∀w1,Ext w w1->w1.heap=w.heap->S w1/\MW P n G.toArray Q S K s l w1):CW P n (.region X G.toArray true) Q l w:=by
 refine Tb λa ha=>?_
 simp only [gu] at M;obtain ⟨h1,h2⟩:=h w.drew (iK w).drew rfl;have N:∀i,i<K->D7 G.toArray K i:=DM M.1.1.1.2 (by have:=gS M.1.1.2;simp;omega);have O:DC G.toArray (iD G.length false):=λk o _ V=>by
  exfalso;rcases gK k G.length with U|U
  . simp [U] at V
  . simp [iv,U] at V
 refine wpIn_region_any Y (GL (S:=S) (K:=K) hL (λi o ho=>List.all_eq_true.1 M.1.2 o (io (by simpa using ho))) _ _ _ _ ?_);have:=(HM.any M.1.1.1.1 N Z s G.length (iD G.length false) a w.drew O h1 (h2 a ha)).1 M.2;simpa using this
def Td {G:List Oper} (M:Ll K ops.toList=some G) (h:LI P n ops Q G l w):MW P n ops Q S K .tail l w:=by
 unfold LI at h;intro a N;show wpListIn _ _ P ops Q (ops.toList.drop K) a w;rw [Gx M];exact h a N
def Oo:MW P n ops Q S K .none l w:=λ_ _=>trivial
def GM {op:Op} {v:Value} (M:ops.toList[i]? = some ⟨some d,op,ty,pos,after,none⟩) (h:Bh P n l S op ty v) (N:gM d n=true) (k:MW P n ops Q S K r ((d,v)::l) w) :
 MW P n ops Q S K (.pure i r) l w:=by
 unfold Bh at h;exact λa G=>⟨_,v,M,gq ⟨rfl,λw O=>h a w _ _ _ _ G O⟩,k _ (G.put N v)⟩
def Oq {op:Op} {G:Option Value->wD->Prop} (X:ops.toList[i]? = some ⟨some d,op,ty,pos,after,none⟩) (M:gM i K=true) (U:BD P n l op ty w G) (Y:gM d n=true)
 (k:∀v w1,G (some v) w1->S w1/\MW P n ops Q S K x ((d,v)::l) w1) (Z:∀w1,¬G none w1) (kr:MW P n ops Q S K r l w):MW P n ops Q S K (.fork i x r) l w:=λa N=>by
 unfold BD at U;refine ⟨gS M,?_,kr a N⟩;have O:ops[i]? = some ⟨some d,op,ty,pos,after,none⟩:=by simpa using X
 unfold wpOp;rw [O];simp only;rw [AQ (Bc rfl)];left;exact U a _ _ _ _ _ _ N (λv w1 V=>⟨(k v w1 V).1,(k v w1 V).2 _ (N.put Y v)⟩) (λw1 h=>absurd h (Z w1))
def Wf {G:List Oper} (M:¬LetsOut Q) (N:G.all Gi=true) (h:LW P n ops Q G l w):LI P n ops Q G l w:=by unfold LW at h;exact λa O=>Om M G a w N (h a O)
def LO {y:Nat} {x:Operand} {xs:List Operand} {tys:Array TypeId} {vs:lV} {R:Ending->wD->Prop} (V:ev l x=some (.func (.yield y) #[] #[])) (O:evs l xs=some vs) (Y:YieldAt (WF none) 0 P y vs.toArray w R) (X:∀e w1,R e w1 -> ∃v,e = .returned v) (Z:gM d n=true)
 (k:∀v w1,R (.returned v) w1->LI P n ops Q rest ((d,v)::l) w1):LI P n ops Q (⟨some d,.call ⟨.value x,xs.toArray,tys⟩,ty,pos,after,none⟩::rest) l w:=λa U=>by
 obtain ⟨fn,tmps,G,N,hy,hr⟩:=Y;have M:xs.map a.eval=vs:=U.evs O;have e:(execOp a.eval ⟨some d,.call ⟨.value x,xs.toArray,tys⟩,ty,pos,after,none⟩).run P w = .ok (.round y fn tmps G N) w:=by
  simp only [execOp,resolve,U.ev V,Deferred.ofValue,gE,gP,gw,invoke];simpa [<-M] using hy
 unfold wpListIn;rw [AQ (Bc rfl)];refine ⟨λ_ _=>trivial,?_⟩;rw [Oper.semAt_eq _ _ _ (λc e=>by cases e),e];refine ⟨Jm,RoundIn.mono hr λe w1 h=>?_⟩;obtain ⟨v,rfl⟩:=X e w1 h;exact k v w1 h _ (U.put Z v)
end draws
def Et {α:Type} (c:Nat) (J:(nP)->List α->wD->Prop):Prop:=
 ∀A A' xs W W',J A xs W->Fr A W W'->(∀k,A k->c<=k)->(∀k,A' k->c<=k)->(∀k,k<W.heap.size->A' k->A k)->J A' xs W'
def Keeps (S:nP) (W W':wD):Prop:=Fr (λk=> ¬S k) W W'
def Keeps.size {S:nP} {W W':wD} (h:Keeps S W W'):W.heap.size<=W'.heap.size:=Fr.size h
def Keeps.block {S:nP} {W W':wD} (h:Keeps S W W') (k:Nat) (G:S k) (M:k<W.heap.size):W'.heap[k]? = W.heap[k]? := Fr.block h k M (λe=>e G)
def Keeps.refl (S:nP) (W:wD):Keeps S W W:=iP _ _
def Keeps.trans {S:nP} {A B C:wD} (h:Keeps S A B) (k:Keeps S B C):Keeps S A C:=Fr.trans h k
def Keeps.of_fr {S T:nP} {A B:wD} (h:Fr T A B) (G:∀k,S k -> ¬T k):Keeps S A B:=⟨h.os,h.tape,h.output,h.size,λk M N=>h.block k M (G k (Classical.not_not.1 N))⟩
def Keeps.of_ext {S:nP} {A B:wD} (h:Ext A B):Keeps S A B:=⟨h.os,h.tape,h.output,h.size,λ_ G _=>h.block G⟩
def Keeps.less {S T:nP} {A B:wD} (h:Keeps S A B) (G:∀k,T k->S k):Keeps T A B:=⟨Fr.os h,Fr.tape h,Fr.output h,Fr.size h,λk M N=>Fr.block h k M (λe=>N (λt=>e (G k t)))⟩
def IterOk {α:Type} (P:Program) (gf:Nat) (lb:lV) (rep:Nat->wD->lV->α->Prop) (Rt:nP) (S:List α) (w:wD):Prop:=
 ∀(y:Nat) (J Jx:(nP)->List α->wD->Prop) (W:wD),Keeps Rt w W->Et W.heap.size J->Et W.heap.size Jx ->
  (∀A pre x vs W1,(∀k,A k->W.heap.size<=k/\k<W1.heap.size)->J A pre W1->rep W.heap.size W1 vs x->(pre++[x]) <+: S ->
   YieldAt (WF none) 0 P y vs.toArray W1 λe W2=>Keeps (λk=>A k\/Rt k) W1 W2/\((e = .returned (.bool true)/\J A (pre++[x]) W2)\/(e = .returned (.bool false)/\Jx A (pre++[x]) W2))) ->
  J (λ_=>False) [] W ->
  Calls P gf (.func (.yield y) #[] #[]::lb).toArray W λe W'=>(∃v,e = .returned v) /\ ∃A,(∀k,A k->W.heap.size<=k)/\(J A S W' \/ ∃pre,pre <+: S/\Jx A pre W')
def Jn {α:Type} (P:Program) (gf:Nat) (lb:lV) (rep:Nat->wD->lV->α->Prop) (Rt:nP) (Pre Fin:List α->Prop) (w:wD):Prop:=
 ∀(y:Nat) (J Jx:(nP)->List α->wD->Prop) (W:wD),Keeps Rt w W->Et W.heap.size J->Et W.heap.size Jx ->
  (∀A pre x vs W1,(∀k,A k->W.heap.size<=k/\k<W1.heap.size)->J A pre W1->rep W.heap.size W1 vs x->Pre (pre++[x]) ->
   YieldAt (WF none) 0 P y vs.toArray W1 λe W2=>Keeps (λk=>A k\/Rt k) W1 W2/\((e = .returned (.bool true)/\J A (pre++[x]) W2)\/(e = .returned (.bool false)/\Jx A (pre++[x]) W2))) ->
  J (λ_=>False) [] W ->
  Calls P gf (.func (.yield y) #[] #[]::lb).toArray W λe W'=>(∃v,e = .returned v) /\ ∃A,(∀k,A k->W.heap.size<=k)/\((∃S,Fin S/\J A S W') \/ ∃pre,Pre pre/\Jx A pre W')
def IterOk.gen {α:Type} {P:Program} {G:Nat} {M:lV} {rep:Nat->wD->lV->α->Prop} {N:nP} {S:List α} {w:wD} (h:IterOk P G M rep N S w):Jn P G M rep N (· <+: S) (· = S) w:=
 λy J Jx W O U V X Y=>(h y J Jx W O U V X Y).mono λ_ _ ⟨Z,A,h7,h8⟩=>⟨Z,A,h7,h8.imp (λh=>⟨S,rfl,h⟩) id⟩
def Uw {W:wD} {r:Nat} {o G:Obj} (h:W.heap[r]? = some o):Fr (λk=>k=r) W (W.putObj r G):=
 ⟨rfl,rfl,rfl,AN,λk _ M=>World.putObj_heap_other M⟩
def Eb {α:Type} (Kp:nP) (J Jx:(nP)->List α->wD->Prop) (A:nP) (xs:List α) (W:wD):Exit->Act->wD->Prop
 | .normal,_,W'=>Keeps Kp W W'/\J A xs W'
 | .ret,_,W'=>Keeps Kp W W'/\Jx A xs W'
 | _,_,_=>False
def BV {α:Type} {Kp:nP} {J Jx:(nP)->List α->wD->Prop} {A:nP} {xs:List α} {W:wD}:¬LetsOut (Eb Kp J Jx A xs W):=λ⟨_,_,h⟩=>h
def Jo {P:Program} {fn:Func} {R:Ending->wD->Prop} (h:∀w,¬R .outgrown w):¬LetsOut (bodyPost P fn R):=λ⟨_,w,e⟩=>h w e
def KF {α:Type} {P:Program} {g:Operand} {ps:Array Tmp} {assign body:Code} {Q:Exit->Act->wD->Prop} {a:Act} {w:wD} {gf:Nat} {lb:lV} {rep:Nat->wD->lV->α->Prop} {Rt:nP} {Pre Fin:List α->Prop}
 (hg:a.eval g = .func (.func gf) #[] lb.toArray) (eg:BT P gf=true) (hit:Jn P gf lb rep Rt Pre Fin w) (hps:∀c W vs x,rep c W vs x->vs.length=ps.size) (hRt:∀k,Rt k->k<w.heap.size)
 (J Jx:(nP)->List α->wD->Prop) (hJ:Et w.heap.size J) (hJx:Et w.heap.size Jx) (h0:J (λ_=>False) [] w)
 (hround:∀r A pre x vs W,(∀k,A k->w.heap.size<=k/\k<W.heap.size)->A (w.heap.size+1)->J A pre W->rep (w.heap.size+2) W vs x->Pre (pre++[x]) ->
  assign.wpIn (WF (some r)) 0 P (Exit.then (λa₁ W₁=>Keeps (λk=>A k\/Rt k) W W₁ /\ ∀W₂,Fr (λk=>k=w.heap.size+1) W₁ W₂->body.wpIn (WF (some r)) 0 P (Eb (λk=>A k\/Rt k) J Jx A (pre++[x]) W₂) a₁ W₂) (λ_ _ _=>False))
   { tmps:=(ps.zip vs.toArray).foldl (λt (p,v)=>t.setIfInBounds p v) a.tmps,defers:=[] } W)
 (hdone:∀A S W,Fin S->(∀k,A k->w.heap.size<=k)->J A S W->A w.heap.size->W.heap[w.heap.size]? = some (.deferred (some []))->Q .normal { a with defers:={ target:=.collected w.heap.size,args:= #[] }::a.defers } W)
 (hstop:∀A pre W,(∀k,A k->w.heap.size<=k)->Pre pre->Jx A pre W->A w.heap.size->W.heap[w.heap.size]? = some (.deferred (some []))->Q .ret { a with defers:={ target:=.collected w.heap.size,args:= #[] }::a.defers } W) :
 (Code.rangeFunc g ps assign body).wpIn (WF none) 0 P Q a w:=by
 refine wpIn_rangeFunc ?_;intro fn hfn
 show ∃l mark w₁ d w₁' f args w₂,(Instr.enterLoop fn a.tmps ps assign body none).run P w = .ok (l,mark) w₁/\_
 obtain ⟨n,hn⟩:∃n,n=w.heap.size:=⟨_,rfl⟩;rw [<-hn] at hJ hJx hround hdone hstop
 obtain ⟨rec,hrec⟩:∃rec:LoopState->Option Code->Loop,rec=λst pe=>{ state:=st,pending:=pe,fn,tmps:=a.tmps,params:=ps,assign,body,defers:=n }:=⟨_,rfl⟩
 obtain ⟨W1,hW1⟩:∃W1,(w.alloc (.deferred (some []))).alloc (.loop (rec .ready none))=W1:=⟨_,rfl⟩
 have hL1:W1.heap[n+1]? = some (.loop (rec .ready none)):=by
  rw [<-hW1,hn];have:=World.alloc_heap_new (w.alloc (.deferred (some []))) (.loop (rec .ready none));rwa [World.size_alloc] at this
 have hK1:W1.heap[n]? = some (.deferred (some [])):=by
  rw [<-hW1,hn];exact (Below.heap_alloc _ _ _ (by simp)).trans (World.alloc_heap_new w _)
 have hX1:Ext w W1:=by rw [<-hW1];exact (((iK w).alloc _).alloc _)
 have hS1:W1.heap.size=n+2:=by rw [<-hW1];simp [hn]
 let U:(nP)->nP:=λA k=>A k\/k=n\/k=n+1
 have hU:∀ {A:nP},(∀k,A k->n+2<=k) -> ∀k,U A k->n<=k:=λh k hk=>by
  rcases hk with hk|hk|hk
  . have:=h k hk;omega
  . omega
  . omega
 have hput:∀ {A:nP} {G:(nP)->List α->wD->Prop} {xs:List α} {W:wD} {o o':Obj} {k:Nat},Et n G->(∀k,A k->n+2<=k)->k=n+1->G (U A) xs W->W.heap[k]? = some o->G (U A) xs (W.putObj k o'):=
  λhG hA hk h ho=>hG _ _ _ _ _ h ⟨rfl,rfl,rfl,by simp,λi _ hi=>World.putObj_heap_other (λe=>hi (gt (gt (e.trans hk))))⟩ (hU hA) (hU hA) (λ_ _ h=>h)
 have hstab:∀ {G:(nP)->List α->wD->Prop} {st:LoopState} {pe:Option Code},Et n G->Et (n+2) (λA pre W=>G (U A) pre W/\W.heap[n+1]? = some (.loop (rec st pe))/\W.heap[n]? = some (.deferred (some []))):=
  λhG A A' xs W W' h hf hA hA' hs=>by
   have hlt:n+1<W.heap.size:=(Array.getElem?_eq_some_iff.1 h.2.1).1;refine ⟨hG _ _ _ _ _ h.1 ⟨hf.os,hf.tape,hf.output,hf.size,λk hk hU=>hf.block k hk (λe=>hU (gq e))⟩ (hU hA) (hU hA') (λk hk h=>?_),(hf.block _ hlt (λe=>by have:=hA _ e;omega)).trans h.2.1,(hf.block _ (by omega) (λe=>by have:=hA _ e;omega)).trans h.2.2⟩
   rcases h with h|h
   . exact gq (hs k hk h)
   . exact gt h
 refine ⟨n+1,[{ target:=.collected n,args:= #[] }],W1,{ target:=.fn (.func gf) lb.toArray,args:= #[.func (.yield (n+1)) #[] #[]] },W1,gf,
  (.func (.yield (n+1)) #[] #[]::lb).toArray,W1,?_,?_,λ_ _=>trivial,?_,Jm,?_⟩
 . rw [<-hW1,hrec,hn];exact run_enterLoop_outer _ _ _ _ _
 . simp only [resolve,hg]
   simp [go_sem]
 . simp only [invoke,gE,Dy eg,gw,gP]
   simp
 . refine wf_calls.2 (ir (hit (n+1) (λA pre W=>J (U A) pre W/\W.heap[n+1]? = some (.loop (rec .ready none))/\W.heap[n]? = some (.deferred (some [])))
    (λA pre W=>Jx (U A) pre W/\W.heap[n+1]? = some (.loop (rec .done (some .ret)))/\W.heap[n]? = some (.deferred (some []))) W1 (Keeps.of_ext hX1) (by rw [hS1];exact hstab hJ) (by rw [hS1];exact hstab hJx) ?_ ⟨?_,hL1,hK1⟩) ?_)
   ·
    rw [hS1];rintro A pre x vs W hA ⟨hi,hl,hk⟩ hrep hpre;have hlt:n+1<W.heap.size:=(Array.getElem?_eq_some_iff.1 hl).1;have hy:=run_yield (P:=P) (args:=vs.toArray) hl (by rw [hrec];simpa using hps _ W vs x hrep);rw [hrec] at hy
    have hUA:∀k,U A k->n<=k/\k<W.heap.size:=λk hk=>by
     rcases hk with hk|hk|hk
     . have:=hA k hk;omega
     . omega
     . omega
    refine ⟨fn,_,assign,body,hy,roundIn_of_wpIn (F:=WF none) hfn (wpIn_mono (hround (n+1) (U A) pre x vs W hUA (gt (gt rfl)) hi hrep hpre) ?_)⟩;rintro e a₁ V₁ hp
    cases e with
    | normal=>
     obtain ⟨hk1,hb⟩:=hp;have hl1:V₁.heap[n+1]? = some (.loop (rec .ready none)):=(hk1.block _ (gq (gt (gt rfl))) hlt).trans hl;have hk1':V₁.heap[n]? = some (.deferred (some [])):=(hk1.block _ (gq (gt (gq rfl))) (by omega)).trans hk;refine ⟨_,run_beginRound hl1 (by rw [hrec]),wpIn_mono (hb _ (Uw hl1)) ?_⟩;have hlt1:n+1<V₁.heap.size:=(Array.getElem?_eq_some_iff.1 hl1).1;obtain ⟨V₂,hV₂⟩:∃V₂,V₁.putObj (n+1) (.loop { rec .ready none with state:=.busy })=V₂:=⟨_,rfl⟩;rw [hV₂]
     have hl2:V₂.heap[n+1]? = some (.loop { rec .ready none with state:=.busy }):=by rw [<-hV₂];exact World.putObj_heap_same hlt1
     have hk2:V₂.heap[n]? = some (.deferred (some [])):=by rw [<-hV₂];exact (World.putObj_heap_other (by omega)).trans hk1'
     have hs2:V₂.heap.size=V₁.heap.size:=by rw [<-hV₂];simp
     have hkeep:∀ {V₃:wD} {o:Obj},Keeps (λk=>U A k\/Rt k) V₂ V₃->Keeps (λk=>A k\/Rt k) W (V₃.putObj (n+1) o):=λhk3=>⟨(Fr.os hk3).trans ((show V₂.os=V₁.os by rw [<-hV₂];rfl).trans (Fr.os hk1)),(Fr.tape hk3).trans ((show V₂.tape=V₁.tape by rw [<-hV₂];rfl).trans (Fr.tape hk1)),(Fr.output hk3).trans ((show V₂.output=V₁.output by rw [<-hV₂];rfl).trans (Fr.output hk1)),by have:=hk1.size;have:=hk3.size;simp;omega,λk hlt hkk=>by
      have hk:=Classical.not_not.1 hkk
      have hne:k≠n+1:=λe=>by
       subst e
       rcases hk with hk|hk
       . have:=hA _ hk;omega
       . have:=hRt _ hk;omega
      have hk':U A k\/Rt k:=hk.imp gq id;rw [World.putObj_heap_other hne,hk3.block k hk' (by have:=hk1.size;omega),<-hV₂,World.putObj_heap_other hne]
      exact hk1.block k hk' hlt⟩
     have fin:∀(jump:Option Code) (V₃:wD),Keeps (λk=>U A k\/Rt k) V₂ V₃ ->
      (Instr.endRound (n+1) jump).run P V₃ = .ok (.bool jump.isNone) (V₃.putObj (n+1) (.loop (rec (if jump.isNone then .ready else .done) jump))) /\
      V₃.heap[n+1]? = some (.loop { rec .ready none with state:=.busy }) /\
      (V₃.putObj (n+1) (.loop (rec (if jump.isNone then .ready else .done) jump))).heap[n+1]? = some (.loop (rec (if jump.isNone then .ready else .done) jump)) /\
      (V₃.putObj (n+1) (.loop (rec (if jump.isNone then .ready else .done) jump))).heap[n]? = some (.deferred (some [])):=λjump V₃ hk3=>by
      have hl3:V₃.heap[n+1]? = some (.loop { rec .ready none with state:=.busy }):=(hk3.block _ (gq (gt (gt rfl))) (by omega)).trans hl2;have:=run_endRound (P:=P) jump hl3;rw [hrec] at this ⊢
      exact ⟨this,by rw [hrec] at hl3;exact hl3,World.putObj_heap_same (Array.getElem?_eq_some_iff.1 hl3).1,(World.putObj_heap_other (by omega)).trans ((hk3.block _ (gq (gt (gq rfl))) (by omega)).trans hk2)⟩
     rintro e a₃ V₃ hp
     cases e with
     | normal=>
      obtain ⟨hk3,hi3⟩:=hp;obtain ⟨hr,hl3,hl4,hk4⟩:=fin none V₃ hk3
      exact ⟨_,_,hr,hkeep hk3,.inl ⟨rfl,hput hJ (λk hk=>(hA k hk).1) rfl hi3 hl3,hl4,hk4⟩⟩
     | ret=>
      obtain ⟨hk3,hi3⟩:=hp;obtain ⟨hr,hl3,hl4,hk4⟩:=fin (some .ret) V₃ hk3
      exact ⟨_,_,hr,hkeep hk3,.inr ⟨rfl,hput hJx (λk hk=>(hA k hk).1) rfl hi3 hl3,hl4,hk4⟩⟩
     | exit id=>exact hp.elim
     | goto t=>exact hp.elim
     | panic ch=>exact hp.elim
     | outgrown=>exact hp.elim
    | exit id=>exact hp.elim
    | goto t=>exact hp.elim
    | ret=>exact hp.elim
    | panic ch=>exact hp.elim
    | outgrown=>exact hp.elim
   . refine hJ _ _ _ _ _ h0 ⟨hX1.os,hX1.tape,hX1.output,hX1.size,λk hk _=>hX1.block hk⟩ (λ_ h=>h.elim) (hU λ_ h=>h.elim) (λk hk h=>?_)
     rcases h with h|h|h
     . exact h
     . omega
     . omega
   ·
    rw [hS1];rintro e W2 ⟨⟨v,rfl⟩,A,hA,(⟨S,hS,hi,hl,hk⟩|⟨pre,hpre,hi,hl,hk⟩)⟩
    . exact ⟨none,_,by have:=run_endLoop (P:=P) hl (by rw [hrec];simp);rw [hrec] at this;exact this,hdone (U A) S _ hS (hU hA) (hput hJ hA rfl hi hl) (gt (gq rfl)) ((World.putObj_heap_other (by omega)).trans hk)⟩
    . exact ⟨some .ret,_,by have:=run_endLoop (P:=P) hl (by rw [hrec];simp);rw [hrec] at this;exact this,wpIn_ret (hstop (U A) pre _ (hU hA) hpre (hput hJx hA rfl hi hl) (gt (gq rfl)) ((World.putObj_heap_other (by omega)).trans hk))⟩
def RQ {α:Type} {P:Program} {g:Operand} {ps:Array Tmp} {G N:Code} {Q:Exit->Act->wD->Prop} {a:Act} {w:wD} {X:Nat} {lb:lV} {rep:Nat->wD->lV->α->Prop} {V:nP} {S:List α}
 (hg:a.eval g = .func (.func X) #[] lb.toArray) (eg:BT P X=true) (Y:IterOk P X lb rep V S w) (Z:∀c W vs x,rep c W vs x->vs.length=ps.size) (aa:∀k,V k->k<w.heap.size)
 (J Jx:(nP)->List α->wD->Prop) (hJ:Et w.heap.size J) (ab:Et w.heap.size Jx) (h0:J (λ_=>False) [] w)
 (M:∀r A pre x vs W,(∀k,A k->w.heap.size<=k/\k<W.heap.size)->A (w.heap.size+1)->J A pre W->rep (w.heap.size+2) W vs x->(pre++[x]) <+: S ->
  G.wpIn (WF (some r)) 0 P (Exit.then (λa₁ W₁=>Keeps (λk=>A k\/V k) W W₁ /\ ∀W₂,Fr (λk=>k=w.heap.size+1) W₁ W₂->N.wpIn (WF (some r)) 0 P (Eb (λk=>A k\/V k) J Jx A (pre++[x]) W₂) a₁ W₂) (λ_ _ _=>False))
   { tmps:=(ps.zip vs.toArray).foldl (λt (p,v)=>t.setIfInBounds p v) a.tmps,defers:=[] } W)
 (O:∀A W,(∀k,A k->w.heap.size<=k)->J A S W->A w.heap.size->W.heap[w.heap.size]? = some (.deferred (some []))->Q .normal { a with defers:={ target:=.collected w.heap.size,args:= #[] }::a.defers } W)
 (U:∀A pre W,(∀k,A k->w.heap.size<=k)->pre <+: S->Jx A pre W->A w.heap.size->W.heap[w.heap.size]? = some (.deferred (some []))->Q .ret { a with defers:={ target:=.collected w.heap.size,args:= #[] }::a.defers } W) :
 (Code.rangeFunc g ps G N).wpIn (WF none) 0 P Q a w  :=
 KF hg eg Y.gen Z aa J Jx hJ ab h0 M (λA S' W e h=>by subst e;exact O A W h) U
section
variable {P:Program} {n:Nat} {l:Sl} {S:wD->Prop} {tab:Tab} {ty:TypeId}
def Dn {x y:Operand} {t e M sz len cap m:Nat} {sE:Sk} {a:oA} {k:IntKind} {U:Int} (T:TabOk P tab) (Y:Az tab t=some (.slice e,M)) (Z:Az tab e=some (sE,sz)) (hx:ev l x=some (.slice a len cap)) (hy:ev l y=some (.int k U)) (N:U=(m:Int)) (hm:m<=cap) :
 Bh P n l S (.slice t x none (some y) none) ty (.slice a m cap):=by
 subst N;unfold Bh;intro aa w ab pos after g V _;have X:P.underlying t=some (.slice e):=(T _ _ _ Y).under;have h:P.elem t=e:=by simp [Program.elem,X]
 have G:P.underlying t=some (.slice (P.elem t)):=by rw [h];exact X
 obtain ⟨i,hi,hs⟩:=(T _ _ _ Z).info;have O:(Go.sizeOf e).run P w = .ok sz w:=by simp [Go.sizeOf,typeInfo,program,Sem.run,bind,Sem.bind,pure,hi,hs]
 have h1:(Instr.sliceAt t (.slice a len cap) none (some (.int k (m:Int))) none).run P w = .ok (.slice a m cap) w:=by
  rw [run_sliceAt_slice w t _ _ _ _ G,run_slice_h w t a len cap G k m Ab Ab];rw [h,O];cases a<;>simp [gw,sliced,iC]
 simp [execOp,V.ev hx,V.ev hy,gE,h1,gw]
end
open Go.Proofs
variable {e:Nat} {xs:List Nd} {v:Value} {w:wD} {cs:lV} {A:nP}
attribute [local irreducible] Go.Calls
mutual
def Nd.walk:Nd->List Nd
 | .mk k n s l=>.mk k n s l::BX l
def BX:List Nd->List Nd
 | []=>[]
 | t::r=>t.walk++BX r
end
def Hh:∀l m:List Nd,BX (l++m)=BX l++BX m
 | [],m=>by simp [BX]
 | t::r,m=>by simp only [List.cons_append,BX,Hh r m,gZ]
def Jp {l:List Nd} {j:Nat} (h:j<l.length):BX (l.take (j+1))=BX (l.take j)++l[j].walk:=by
 rw [gx h,Hh,BX,BX,List.append_nil]
def PS {l:List Nd} {j:Nat} (h:j<l.length):BX (l.take j)++l[j].walk <+: BX l:=by
 rw [<-Jp h];exact ⟨BX (l.drop (j+1)),by rw [<-Hh,List.take_append_drop]⟩
def Yu (b0:Nat) (W:wD) (vs:lV) (t:Nd):Prop:= ∃pa pn pc a c,vs=[.slice pa pn pc,t.val a c]/\t.sits (λb=>b0<=b) W a/\t.kids.length<=c
def SliceR (n:Nat) (w:wD):Ending->wD->Prop:=λe w'=> ∃a c,e = .returned (.slice a n c)/\Ext w w'
def SliceR.ret {n:Nat} {e:Ending} {w':wD} (h:SliceR n w e w'):∃v,e = .returned v:=by
 obtain ⟨_,_,h,-⟩:=h;exact ⟨_,h⟩
def RR {B g cap m k:Nat} {w':wD} (h:0+k=m) (_:OwnF e 1 B w' g cap m ([]++cs)) (X:Ext w w'):SliceR k w (.returned (.slice (some ⟨g,0,none⟩) m cap)) w':=⟨_,_,by rw [<-h,iu],X⟩
def KG (cs:lV) (n:Nat) (N:cs.length=n*1) (O:cs.all i6=true) (hl:n<=1000000000) (S:nP) (p:Addr) (c:Nat) (w:wD) (h:Rows S w cs (some p)) :
 Calls prog 88 #[.slice (some p) n c] w (SliceR n w):=by
 have X:=iK w;have h:=h.ltA;refine Ad func88 ntmps88 rfl rfl (eK ?_);refine C1 (LA Ac rfl rfl) (eK ?_);refine Ax (GF (B:=w.heap.size) Ac rfl rfl Ab) rfl ?_ aFh;rintro _ w6 ⟨g1,rfl,h2,h3,h4,U⟩;revert X h;refine eE U ?_;intro X h;refine C1 Mv (Ax (GG Ac Cs rfl rfl rfl rfl AT rfl rfl rfl Af Af N O Ab) rfl ?_ aFh);rintro _ V ⟨Y,G,rfl,Z,aa,ab,M⟩;have X:=X.fr M Ab;refine kR ?_;exact RR rfl Af X
def KH (w:wD):Calls prog 88 #[.slice none 0 0] w (SliceR 0 w):=by
 have X:=iK w;refine Ad func88 ntmps88 rfl rfl (eK ?_);refine C1 (Lz Ac rfl rfl) (kR ?_);exact ⟨_,_,rfl,X⟩
def PT {b n:Nat} (h:Own w b e 1 v n cs) (G:cs.all i6=true) (M:n<=1000000000):Calls prog 88 #[v] w (SliceR n w):=by
 rcases h.row with ⟨rfl,rfl,rfl⟩|⟨g,cap,rfl,O,-,N⟩
 . exact KH w
 . exact KG cs n h.1 G M (λ_=>True) _ _ w (gt ⟨g,0,rfl,trivial,N⟩)
section
variable {P:Program} {n:Nat} {l:Sl} {S:wD->Prop} {tab:Tab} {zt:Ei} {ty:TypeId} {w:wD} {ops:Array Oper} {Q:Exit->Act->wD->Prop} {rest:List Oper} {d:Nat} {pos:String} {after:Array Edge}
def RS {x y:Operand} {t N B m cap:Nat} {sE:Sk} {zs:lV} {u:Value} {p:Addr} (T:TabOk P tab) (Z:Ch P zt) (Y:Az tab t=some (.slice e,N)) (hE:Az tab e=some (sE,1)) (hz:Cz zt e=some zs) (O:zs.length=1)
 (U:Dk P e=true) (hx:ev l x=some v) (hy:ev l y=some (.slice (some p) 1 cap)) (M:Own w B e 1 v m cs) (hr:Row w p [u]) (h1:i6 u=true) (V:m<=10000000000) (hB:B<=w.heap.size) (hd:gM d n=true)
 (k:∀g G w1,Own w1 B e 1 (.slice (some ⟨g,0,none⟩) (m+1) G) (m+1) (cs++[u])->(v.ownBlock=some g\/w.heap.size<=g)->g<w1.heap.size->Fr (λk=>v.ownBlock=some k) w w1->LW P n ops Q rest ((d,.slice (some ⟨g,0,none⟩) (m+1) G)::l) w1) :
 LW P n ops Q (⟨some d,.call ⟨.builtin .append,#[x,y],#[t,t]⟩,ty,pos,after,none⟩::rest) l w:=by
 refine Ax (DV T Z Y hE hz O U rfl hx hy M hr rfl (by simp [h1]) Ab Ab hB) hd (λv w1 h=>?_) aFh;obtain ⟨X,g2,g,G,g3,g4⟩:=h;subst g3;exact k g G w1 X g4 (X.blk (k:=g) rfl).2 g2
end
def Own.below {b sz n:Nat} (h:Own w b e sz v n cs) (G:Nat) (N:∀k,v.ownBlock=some k->G<=k):Own w G e sz v n cs:=by
 obtain ⟨M,O|⟨g,cap,cur,rfl,V,U⟩⟩:=h
 . exact ⟨M,gq O⟩
 . exact ⟨M,gt ⟨g,cap,cur,rfl,N g rfl,U⟩⟩
def Own.shrink {b sz n m:Nat} {p:Addr} {cap:Nat} (h:Own w b e sz (.slice (some p) n cap) n cs) (V:m<=n):Own w b e sz (.slice (some p) m cap) m (cs.take (m*sz)):=by
 have G:m*sz<=n*sz:=Nat.mul_le_mul_right _ V;obtain ⟨M,⟨X,-⟩|⟨g,N,cur,O,Y,Z,hc,h3,h4,U⟩⟩:=h
 . simp at X
 . simp only [gR,gy] at O;obtain ⟨rfl,-,rfl⟩:=O;refine ⟨by rw [ij,M];omega,gt ⟨g,cap,cur,rfl,Y,Z,Ab,h3,h4,?_⟩⟩;rw [<-U,List.take_take,Nat.min_eq_left];rw [<-M,<-U,ij] at G;omega
structure VSt (y c bY bP bV:Nat) (A:nP) (W:wD) (pv:Value) (d:Nat):Prop where
 y0:Blk W bY [.func (.yield y) #[] #[]]
 p0:Blk W bP [pv]
 v0:Blk W bV [.func (.func 176) #[] #[.pointer (some ⟨bY,0,none⟩),.pointer (some ⟨bP,0,none⟩),.pointer (some ⟨bV,0,none⟩)]]
 own:∃cs:lV,cs.all i6=true/\Own W c 3 1 pv d cs
 a0:A bY
 a1:A bP
 a2:A bV
 ap:∀g,pv.ownBlock=some g->A g/\g≠bY/\g≠bP/\g≠bV
 ne:bY≠bP/\bV≠bP
 lt:∀k,A k->c<=k/\k<W.heap.size
def cO (Rt A:nP) (bP:Nat) (pv:Value):nP:=λk=>Rt k\/(A k/\k≠bP/\pv.ownBlock≠some k)
def eX (y c bY bP bV:Nat) (Rt:nP) (J Jx:(nP)->List Nd->wD->Prop) (S:List Nd) (A:nP) (xs:List Nd) (W:wD) (pv:Value) (d:Nat) (q:Bool) (W':wD):Prop:=
 ∃A':nP,(∀k,A k->A' k)/\(∀k,A' k->c<=k) /\
  ((q=true /\ ∃pv',VSt y c bY bP bV A' W' pv' d/\J A' xs W'/\(∀g,pv'.ownBlock=some g->pv.ownBlock=some g\/W.heap.size<=g)/\Keeps (cO Rt A bP pv) W W')\/(q=false /\ ∃pre,pre <+: S/\Jx A' pre W'))
def VEnd (y c bY bP bV:Nat) (Rt:nP) (J Jx:(nP)->List Nd->wD->Prop) (S:List Nd) (A:nP) (xs:List Nd) (W:wD) (pv:Value) (d:Nat):Ending->wD->Prop:=λe W'=>
 ∃q,e = .returned (.bool q)/\eX y c bY bP bV Rt J Jx S A xs W pv d q W'
def VEnd.ret {y c G M N:Nat} {O:nP} {J Jx:(nP)->List Nd->wD->Prop} {S:List Nd} {U:Value} {d:Nat} {e:Ending} {W':wD} (h:VEnd y c G M N O J Jx S A xs w U d e W'):∃v,e = .returned v:=by
 obtain ⟨_,h,-⟩:=h;exact ⟨_,h⟩
def Te {c G M N:Nat} {O:nP} {J Jx:(nP)->List Nd->wD->Prop} {S:List Nd} {W:wD} {d:Nat} (w:wD):¬VEnd e c G M N O J Jx S A xs W v d .outgrown w:=λ⟨_,h,_⟩=>by cases h
def YRes (Rt:nP) (J Jx:(nP)->List Nd->wD->Prop) (A:nP) (xs:List Nd) (W:wD):Ending->wD->Prop:=λe W'=>
 Keeps (λk=>A k\/Rt k) W W'/\((e = .returned (.bool true)/\J A xs W')\/(e = .returned (.bool false)/\Jx A xs W'))
def YRes.ret {G:nP} {J Jx:(nP)->List Nd->wD->Prop} {e:Ending} {W':wD} (h:YRes G J Jx A xs w e W'):∃v,e = .returned v:=by
 obtain ⟨-,⟨h,-⟩|⟨h,-⟩⟩:=h<;>exact ⟨_,h⟩
def Yv (y c bY bP bV:Nat) (Rt:nP) (be:∀k,Rt k->k<c) (J Jx:(nP)->List Nd->wD->Prop) (hJ:Et c J) (S:List Nd)
 (hY:∀A pre x vs W1,(∀k,A k->c<=k/\k<W1.heap.size)->J A pre W1->Yu c W1 vs x->(pre++[x]) <+: S->YieldAt (WF none) 0 prog y vs.toArray W1 (YRes Rt J Jx A (pre++[x]) W1)) (N:Nat) :
 ∀(t:Nd) (A:nP) (pre:List Nd) (a:oA) (ca:Nat) (W:wD) (pv:Value) (d:Nat),t.size<N->t.size<=1000000->d+t.size<=2000000->t.sits Rt W a->VSt y c bY bP bV A W pv d->J A pre W->(pre++t.walk) <+: S ->
  Calls prog 176 #[t.val a ca,.pointer (some ⟨bY,0,none⟩),.pointer (some ⟨bP,0,none⟩),.pointer (some ⟨bV,0,none⟩)] W (VEnd y c bY bP bV Rt J Jx S A (pre++t.walk) W pv d):=by
 induction N with
 | zero=>intro t A pre a ca W pv d h;omega
 | succ N ih=>
  rintro ⟨k,n,s,l⟩ A pre a ca W pv d hN hM hd hs hV bn a9;have hz:(Nd.mk k n s l).size=1+AU l:=by rw [iX]
  have cv:=Cm l;rw [hz] at hN hd;have hT:=gp (S9 (.mk k n s l) hM);rw [hz] at hM;obtain ⟨V,p0,v0,⟨cs,bo,G⟩,a0,a1,a2,ap,ne,Z⟩:=hV;have l0:=Z _ a0;have l1:=Z _ a1;have l2:=Z _ a2;have HP:=gp a9;have HS:=gp hs;have HJ:=gp bn;have bf:=gp ap;have HL:=gp Z;have IH:=gp ih;have HY:=gp hY;have bg:=gp hJ;clear ap Z a9 bn hs ih hY hJ;have X:=iK W;refine Ad func176 ntmps176 rfl rfl ?_;refine cS (eB [_,_,_,_] ?_);intro b1 w2 h4 x5 p6 z7;revert V p0 v0 G X;refine eE x5 ?_;intro V p0 v0 G X;refine C1 Pa (cT (Aj ?_));refine Aj (PR (λwz=>Ext w2 wz) 5 (.pure 0 (.pure 1 (.pure 3 (.fork 2 (.fork 4 .tail .none) .none)))) mixed AT (Aa (Aa Ag)) (Bt (Bt (Jo Te))) ?_);intro w3 x3 _;refine ⟨x3,?_⟩;refine GM rfl (Ap Ac rfl rfl rfl (λwz hz=>iV (iW V hz) rfl)) rfl (GM rfl (Ap Ac rfl rfl rfl (λwz hz=>iV (iW p0 hz) rfl)) rfl (GM rfl (H7 Ac rfl rfl rfl rfl (λwz hz=>i7 (iW h4 hz))) rfl ?_));refine Oq rfl rfl (AR AT rfl (PT (G.ext x3) bo Ab) (λ_ _ h=>h.ret)) rfl ?_ aFh Oo;rintro _ w4 ⟨pa,pc,⟨⟩,x4⟩;have au:=Ext.trans x3 x4;refine ⟨au,?_⟩;refine Oq rfl rfl (AR AT rfl (hT.out Rt a ca w4 (Nd.sits.ext HS.out (X.trans au))) (λ_ _ h=>h.ret)) rfl ?_ aFh Oo;rintro _ w5 ⟨ta,tc,⟨⟩,ts,x5,tk⟩;have ag:=Ext.trans au x5;refine ⟨ag,?_⟩;refine Td rfl ?_;have X5:=X.trans ag
  obtain ⟨A5,av⟩:∃A5:nP,A5=λk=>A k\/(W.heap.size<=k/\k<w5.heap.size):=⟨_,rfl⟩
  have Y:∀k,A k->A5 k:=λk M=>by rw [av];exact gq M
  have ao:∀k,A5 k->c<=k/\k<w5.heap.size:=λk M=>by
   rw [av] at M;rcases M with M|M
   . have:=HL.out k M;have:=X5.size;omega
   . omega
  have bp:A5 b1:=by rw [av];have:=h4.lt;have:=ag.size;exact gt ⟨Ab,Ab⟩
  have J5:J A5 pre w5:=bg.out A _ pre W w5 HJ.out ⟨X5.os,X5.tape,X5.output,X5.size,λk M _=>X5.block M⟩ (λk M=>(HL.out k M).1) (λk M=>(ao k M).1) (λk M h=>by rw [av] at h;exact h.elim id (λh=>by omega));clear av;have aw:pre++[Nd.mk k n s l] <+: S:=List.IsPrefix.trans ⟨BX l,by simp [Nd.walk]⟩ HP.out;refine LO rfl rfl (HY.out _ pre (.mk k n s l) [_,_] w5 ao J5 ⟨pa,_,pc,ta,tc,rfl,iR ts (λb hb=>by have:=au.size;omega),tk⟩ aw) (λ_ _ h=>h.ret) rfl ?_;rintro v w6 ⟨ah,b8⟩;refine Wf (Bt (Bt (Jo Te))) rfl ?_;rcases b8 with ⟨⟨⟩,a4⟩|⟨⟨⟩,a4⟩
  case inr=>
   clear V p0 v0 h4 G X;refine eK ?_;refine xR ?_;exact ⟨false,rfl,A5,Y,λk h=>(ao k h).1,gt ⟨rfl,_,aw,a4⟩⟩
  have hK:Keeps (cO Rt A bP pv) W w6:=(Keeps.of_ext X5).trans (Keeps.less ah (λk M=>M.elim gt (λh=>gq (Y k h.1))));have aq:∀k,A5 k -> ¬ ¬(A5 k\/Rt k):=λk h e=>e (gq h)
  have V:=(V.ext ag).fr ah (aq _ (Y _ a0));have p0:=(p0.ext ag).fr ah (aq _ (Y _ a1));have v0:=(v0.ext ag).fr ah (aq _ (Y _ a2));have h4:=(h4.ext ag).fr ah (aq _ bp);have G:=(G.ext ag).fr ah (λg hg=>aq _ (Y _ (bf.out g hg).1));have bq:rowSits Rt w6 l a:=((Es HS.out).ext X5).fr ah (λb hb e=>e (gt hb));have b9:=ah.size;have cb:=X5.size;have br:VSt y c bY bP bV A5 w6 pv d:=⟨V,p0,v0,⟨cs,bo,G⟩,Y _ a0,Y _ a1,Y _ a2,λg hg=>⟨Y _ (bf.out g hg).1,(bf.out g hg).2⟩,ne,λk h=>⟨(ao k h).1,by have:=ao k h;omega⟩⟩;clear X aq V p0 v0 G hT HY ts x3 x4 x5 au ag X5 J5 ah ao bp;refine C1 Pt (cT (AY rfl (Ao (Ai (Aj (cS (C1 Pf (C1 (Pl h4) (C1 Pz (C1 Mv (cT ?_)))))))))));refine As ?_;refine AG (ι:=Nat×(nP)×Value) (λx=>[(1,.pointer (some ⟨bY,0,none⟩)),(2,.pointer (some ⟨bP,0,none⟩)),(3,.pointer (some ⟨bV,0,none⟩)),(16,.slice a l.length ca),(17,.int .i64 l.length),(18,.int .i64 x.1)])
   (λx w'=>x.1<=l.length/\VSt y c bY bP bV x.2.1 w' x.2.2 d/\J x.2.1 (pre++[.mk k n s l]++BX (l.take x.1)) w'/\rowSits Rt w' l a/\Keeps (cO Rt A bP pv) W w'/\(∀g,x.2.2.ownBlock=some g->pv.ownBlock=some g\/W.heap.size<=g)/\(∀k,A k->x.2.1 k))
   (λx=>l.length-x.1) (0,A5,pv) sB ⟨gC _,br,by simpa [BX] using a4,bq,hK,λg hg=>gq hg,Y⟩ ?_
  clear br a4 bq hK Y h4 b9 cb;rintro ⟨j,B,qv⟩ w7 ⟨hj,hV,ax,O,a5,a6,ay⟩;simp only at hj hV ax O a5 a6 ay;by_cases Z:j<l.length
  . obtain ⟨V,p0,v0,⟨ds,cc,G⟩,a0,a1,a2,ap,-,ar⟩:=hV;obtain ⟨kb,ko,rfl,kS,ba⟩:=BI O (by intro e;subst e;simp at Z);obtain ⟨xa,xc,rx,sx⟩:=ba j l[j] (gm Z);have c7:=Cx (gA Z);have bh:=Jp Z;have cd:=PS Z;have HB:=gp ar;have aj:=gp ap;have HR:=gp be;have l0:=ar _ a0;have l1:=ar _ a1;have l2:=ar _ a2;have c8:=be _ kS;have bs:=gp ax;have bi:=gp a5;have a7:=gp a6;have ak:∀g,qv.ownBlock=some g->c<=g/\g<w7.heap.size:=λg hg=>ar _ (ap g hg).1
    clear ba ar ap ax a5 a6 be;generalize l[j]=x at *;have X7:=iP (λk=>k=bP\/qv.ownBlock=some k) w7;refine eK ?_;refine eA [_,_,_,_] ?_;intro ce c9 cf cg da db;revert V p0 v0 G O rx sx X7;refine eE cg ?_;intro V p0 v0 G O rx sx X7;refine C1 Pa (eS [_,_,_,_] cf ?_);intro dc aa ae cw;revert V p0 v0;refine eF ae ?_;intro V p0 v0;have G:=Own.fr G ae (λg hg e=>by have:=ak _ hg;omega);have O:=jh O ae (λb hb h=>by have:=HR.out _ hb;omega);have rx:=Row.fr rx ae (by simp only;omega);have sx:=iL sx ae (λb hb h=>by have:=HR.out _ hb;omega);have X7:=X7.fr ae Ab;refine eK ?_;refine Ax (xS [_]) rfl ?_ aFh;rintro _ cx ⟨cy,rfl,am,cz⟩;have af:=am.blk;dsimp only at af;have bt:=am.ext;have c0:=am.pos;have c1:=am.size;revert aa V p0 v0 G O rx sx X7;refine eE bt ?_;intro aa V p0 v0 G O rx sx X7;refine RS Ac Cs rfl rfl rfl rfl AT rfl rfl Af (i7 Af) rfl Ab Ab rfl ?_;rintro ai ab c2 an az c3 U;have c4:=U.size;have af:=iO af U (λh=>by have:=ak _ h;omega);have aa:=iO aa U (λh=>by have:=ak _ h;omega);have V:=iO V U (λh=>(aj.out _ h).2.1 rfl);have p0:=iO p0 U (λh=>(aj.out _ h).2.2.1 rfl);have v0:=iO v0 U (λh=>(aj.out _ h).2.2.2 rfl);clear G;have O:=jh O U (λb hb h=>by have:=ak _ h;have:=HR.out _ hb;omega);clear rx;have sx:=iL sx U (λb hb h=>by have:=ak _ h;have:=HR.out _ hb;omega);have X7:=Fr.fr X7 U (λk M=>gq (gt M));refine eS [_] p0 ?_;intro ac bb ad c5;have an:=Own.fr an ad (λk M e=>by (obtain rfl:=gB (show some ai=some k from M);rcases az with h|h;exact (aj.out _ h).2.2.1 e;omega));revert af aa;refine eF ad ?_;intro af aa;have V:=iO V ad (λh=>ne.1 h);have v0:=iO v0 ad (λh=>ne.2 h);have O:=jh O ad (λb hb h=>by have:=HR.out _ hb;omega);have sx:=iL sx ad (λb hb h=>by have:=HR.out _ hb;omega);have X7:=X7.fr ad Ab;refine cT (Aj ?_)
    have dd:=X7.size;obtain ⟨D,hD⟩:∃D:nP,D=λk=>B k\/(w7.heap.size<=k/\k<ac.heap.size):=⟨_,rfl⟩
    have al:∀k,B k->D k:=λk M=>by rw [hD];exact gq M
    have bu:∀k,D k->c<=k/\k<ac.heap.size:=λk M=>by
     rw [hD] at M;rcases M with M|M
     . have:=HB.out k M;omega
     . omega
    have G:∀g,(gN (some ⟨ai,0,none⟩) (d+1) ab).ownBlock=some g->D g/\g≠bY/\g≠bP/\g≠bV/\(qv.ownBlock=some g\/w7.heap.size<=g):=λg hg=>by
     obtain rfl:=gB (show some ai=some g from hg);rcases az with h|h
     . have:=aj.out _ h;exact ⟨al _ this.1,this.2.1,this.2.2.1,this.2.2.2,gq h⟩
     . exact ⟨by rw [hD];exact gt ⟨Ab,Ab⟩,Ab,Ab,Ab,gt Ab⟩
    have bv:VSt y c bY bP bV D ac (.slice (some ⟨ai,0,none⟩) (d+1) ab) (d+1):=⟨V,bb,v0,⟨_,by rw [List.all_append,cc];rfl,an⟩,al _ a0,al _ a1,al _ a2,λg hg=>⟨(G g hg).1,(G g hg).2.1,(G g hg).2.2.1,(G g hg).2.2.2.1⟩,ne,bu⟩;have J8:J D (pre++[Nd.mk k n s l]++BX (List.take j l)) ac:=bg.out B D _ w7 ac bs.out (X7.weaken (λk M=>M.elim (λe=>e▸a1) (λe=>(aj.out _ e).1))) (λk M=>(HB.out k M).1) (λk M=>(bu k M).1) (λk M h=>by rw [hD] at h;exact h.elim id (λh=>by omega));have bj:pre++[Nd.mk k n s l]++BX (List.take j l)++x.walk <+: S:=by
     refine List.IsPrefix.trans ?_ HP.out;rw [Nd.walk,<-List.singleton_append,gZ,gZ,gZ];exact (List.prefix_append_right_inj _).2 ((List.prefix_append_right_inj _).2 cd)
    have HX:=gp (IH.out x D _ xa xc ac _ (d+1) Ab Ab Ab sx bv J8 bj);have de:D ce:=by rw [hD];exact gt ⟨Ab,Ab⟩
    have bw:Keeps (cO Rt A bP pv) W ac:=bi.out.trans (Keeps.of_fr X7 (λk M h=>by
     rcases M with M|⟨h1,h2,h3⟩
     . rcases h with h|h
       . have:=HR.out _ M;omega
       . have:=HR.out _ M;have:=ak _ h;omega
     . rcases h with h|h
       . exact h2 h
       . rcases a7.out _ h with h|h
         . exact h3 h
         . have:=HL.out _ h1;omega))
    have df:=bi.out.size;clear hD J8 bv an az bs bi sx X7;refine eK ?_;refine Ax (A9 (fi:=[]) (ca:=[.pointer (some ⟨bY,0,none⟩),.pointer (some ⟨bP,0,none⟩),.pointer (some ⟨bV,0,none⟩)]) AT rfl rfl HX.out (λ_ _ h=>h.ret)) rfl ?_ aFh;rintro _ bx ⟨dg,⟨⟩,ch⟩;refine C1 Pt (cT ?_);obtain ⟨E,bz,bk,⟨rfl,ci,cj,J9,b0,a8⟩|⟨rfl,b2,ck,cl⟩⟩:=ch
    . have b3:∀k,cO Rt A bP pv k->cO Rt D bP (.slice (some ⟨ai,0,none⟩) (d+1) ab) k:=λk M=>by
       rcases M with M|⟨h1,h2,h3⟩
       . exact gq M
       . refine gt ⟨al _ (ay _ h1),h2,λe=>?_⟩;rcases (G _ e).2.2.2.2 with h|h
         . rcases a7.out _ h with h|h
           . exact h3 h
           . have:=HL.out _ h1;omega
         . have:=HL.out _ h1;omega
      have b4:=gp (bw.trans (a8.less b3));have bl:=O.fr a8 (λb hb e=>e (gq hb));have dh:=a8.size;have bc:∀g,ci.ownBlock=some g->pv.ownBlock=some g\/W.heap.size<=g:=λg hg=>by
       rcases b0 g hg with h|h
       . rcases (G g h).2.2.2.2 with h|h
         . exact a7.out g h
         . exact gt Ab
       . exact gt Ab
      clear bb af aa V v0 O bw a8 G b3 b0 a7 HX aj ak;obtain ⟨V,p0,v0,⟨di,b5,G⟩,cm,b6,cn,ap,-,b7⟩:=cj;rcases G.row with ⟨-,h0,-⟩|⟨g',bd,rfl,-,-,-⟩
      . omega
      have co:=gp ap;have cp:g'≠bP:=(ap g' rfl).2.2.1;have c6:d+1<=bd:=OwnF.le (B:=0) ⟨gC _,(G.below g' (λk M=>by obtain rfl:=gB (show some g'=some k from M);exact gI _))⟩;have hm:((d+1:Nat):Int)-1=(d:Int):=by omega
      have bm:=G.shrink (m:=d) Ab;have HQ:=gp bc;have HE:=gp b7;have cq:=gp J9;clear G ap bc b7 J9;have X9:=iP (λk=>k=bP) bx;refine eK ?_;refine C1 (AK rfl rfl (gz _ Ab)) (C1 (Dn Ac rfl rfl rfl rfl hm Ab) (eS [_] p0 ?_));intro cr ct a3 dk;have bl:=jh bl a3 (λb hb h=>by have:=HR.out _ hb;omega);have V:=iO V a3 (λh=>ne.1 h);have v0:=iO v0 a3 (λh=>ne.2 h);have bm:=Own.fr bm a3 (λk M e=>cp ((gB (show some g'=some k from M)).trans e));have X9:=X9.fr a3 Ab;refine Ak (Ah (Ai (Al (C1 V7 (C1 Mv (Ak ?_))))));refine Aw (j+1,E,.slice (some ⟨g',0,none⟩) d bd) sB ⟨by simp only;omega,⟨V,ct,v0,⟨_,List.all_eq_true.2 (λx hx=>List.all_eq_true.1 b5 x (List.mem_of_mem_take hx)),bm⟩,cm,b6,cn,λg hg=>co.out g hg,ne,λk h=>⟨(HE.out k h).1,by have:=(HE.out k h).2;omega⟩⟩,?_,bl,b4.out.trans (Keeps.of_fr X9 (λk M e=>?_)),λg hg=>HQ.out g hg,λk h=>bz _ (al _ (ay _ h))⟩ (by simp only;omega)
      . simp only;rw [bh,<-gZ];exact bg.out E E _ bx cr cq.out (X9.weaken (λk e=>e▸b6)) bk bk (λ_ _ h=>h)
      . rcases M with M|M
        . have:=HR.out _ M;omega
        . exact M.2.1 e
    . refine eK ?_;refine xR ?_;exact ⟨false,rfl,E,λk h=>bz k (al k (ay k h)),bk,gt ⟨rfl,b2,ck,cl⟩⟩
  . obtain rfl:j=l.length:=by omega
    rw [gF] at ax;have cu:J B (pre++(Nd.mk k n s l).walk) w7:=by rw [Nd.walk,<-List.singleton_append,<-gZ];exact ax
    refine eK ?_;refine xR ?_;exact ⟨true,rfl,B,ay,λk h=>(hV.lt k h).1,gq ⟨rfl,qv,hV,cu,a6,a5⟩⟩
structure OwnQ {α:Type} (sh:Shape α) (w:wD) (R:nP) (B e:Nat) (v:Value) (xs:List α):Prop where
 ex:∃css:List lV,Own w B e sh.sz v xs.length css.flatten/\css.length=xs.length /\ ∀(i:Nat) (x:α) (cs:lV),xs[i]? = some x->css[i]? = some cs->sh.rep w (λb=>R b/\v.ownBlock≠some b) x cs
section
variable {α:Type} {sh:Shape α} {R R':nP} {B e:Nat} {w w':wD} {v:Value} {xs:List α}
def OwnQ.nil:OwnQ sh w R B e (.slice none 0 0) []:=⟨⟨[],Own.nil,rfl,AN⟩⟩
def OwnQ.ge (h:OwnQ sh w R B e v xs) {k:Nat} (G:v.ownBlock=some k):B<=k:=by
 obtain ⟨M,N,-⟩:=h.ex;exact N.ge G
def OwnQ.lt (h:OwnQ sh w R B e v xs) {k:Nat} (G:v.ownBlock=some k):k<w.heap.size:=by
 obtain ⟨M,N,-⟩:=h.ex;exact (N.blk G).2
def OwnQ.ext (h:OwnQ sh w R B e v xs) (x:Ext w w'):OwnQ sh w' R B e v xs:=by
 obtain ⟨G,M,N,O⟩:=h.ex;exact ⟨G,M.ext x,N,λi y cs U V=>sh.mono (O i y cs U V) aFh (λb o u _ X=>x.keep X)⟩
instance  : LfE w w' (OwnQ sh w R B e v xs) (OwnQ sh w' R B e v xs):=⟨λx h=>Bk.OwnQ.ext h x⟩
def OwnQ.fr {S:nP} (h:OwnQ sh w R B e v xs) (x:Fr S w w') (N:∀k,S k -> ¬R k/\v.ownBlock≠some k):OwnQ sh w' R B e v xs:=by
 obtain ⟨G,O,U,V⟩:=h.ex;exact ⟨G,O.fr x (λk X M=>(N k M).2 X),U,λi y cs Y Z=>sh.mono (V i y cs Y Z) aFh (λb o u hb hu=>x.keep (λM=>(N b M).1 hb.1) hu)⟩
instance {S:nP}:LfF S w w' (OwnQ sh w R B e v xs) (∀k,S k -> ¬R k/\v.ownBlock≠some k) (OwnQ sh w' R B e v xs):=⟨λx s h=>Bk.OwnQ.fr h x s⟩
def OwnQ.ltR (h:OwnQ sh w R B e v xs):OwnQ sh w (λb=>R b/\b<w.heap.size) B e v xs:=by
 obtain ⟨G,N,O,U⟩:=h.ex;exact ⟨G,N,O,λi y cs V X=>sh.mono (sh.lt (U i y cs V X)) (λb M=>⟨⟨M.1.1,M.2⟩,M.1.2⟩) (λ_ _ _ _ Y=>Y)⟩
def OwnQ.below (h:OwnQ sh w R B e v xs) {M:Nat} (O:∀k,v.ownBlock=some k->M<=k):OwnQ sh w R M e v xs:=by
 obtain ⟨G,U,V,X⟩:=h.ex;refine ⟨G,?_,V,X⟩;obtain ⟨N,Y|⟨g,cap,cur,rfl,k3,Z⟩⟩:=U
 . exact ⟨N,gq Y⟩
 . exact ⟨N,gt ⟨g,cap,cur,rfl,O g rfl,Z⟩⟩
def dC (sh:Shape α) (w:wD) (R:nP) (B:Nat) (e:TypeId) (v:Value) (ys:List α):Option Value->wD->Prop
 | some v',w'=> ∃g cap,v' = .slice (some ⟨g,0,none⟩) ys.length cap/\OwnQ sh w' R B e v' ys/\(v.ownBlock=some g\/w.heap.size<=g)/\g<w'.heap.size/\Fr (λk=>v.ownBlock=some k) w w'
 | none,_=>False
def GN {P:Program} {n:Nat} {l:Sl} {tab:Tab} {zt:Ei} {ty:TypeId} {x y:Operand} {t sz1 cap:Nat} {sE:Sk} {zs:lV} {z:α} {p:Addr} (T:TabOk P tab) (Z:Ch P zt) (ht:Az tab t=some (.slice e,sz1)) (hE:Az tab e=some (sE,sh.sz)) (hz:Cz zt e=some zs) (hzl:zs.length=sh.sz)
 (hby:Dk P e=true) (hsz:gM 0 sh.sz=true) (hx:ev l x=some v) (hy:ev l y=some (.slice (some p) 1 cap)) (hown:OwnQ sh w R' B e v xs) (hw:∀b,R' b->R b) (hr:Row w p cs) (hrep:sh.rep w (λb=>R b/\v.ownBlock≠some b) z cs) (hlen:xs.length<=10000000000) (hB:B<=w.heap.size) :
 BD P n l (.call ⟨.builtin .append,#[x,y],#[t,t]⟩) ty w (dC sh w R B e v (xs++[z])):=by
 obtain ⟨css,h1,h2,h3'⟩:=hown.ex;have h3:∀(i:Nat) (x:α) (cs:lV),xs[i]? = some x->css[i]? = some cs->sh.rep w (λb=>R b/\v.ownBlock≠some b) x cs:=λi y cs hy hc=>sh.mono (h3' i y cs hy hc) (λb hb=>⟨hw b hb.1,hb.2⟩) (λ_ _ _ _ hu=>hu)
 have hd:=DV (P:=P) (n:=n) (l:=l) (ty:=ty) T Z ht hE hz hzl hby hsz hx hy h1 hr (by rw [sh.len hrep];simp) (sh.one hrep) Ab Ab hB;unfold BD at hd ⊢;intro a dst pos after g next Q ha hn c;refine hd a dst pos after g next Q ha (λv' w' hG=>?_) (λw' hG=>hG.elim);obtain ⟨g1,g2,g,cap',g3,g4⟩:=hG;have hg:=g1.blk (k:=g) (by rw [g3];rfl);refine hn v' w' ⟨g,cap',by rw [g3];simp,⟨css++[cs],?_,by simp [h2],λi y ds hy hc=>?_⟩,g4,hg.2,g2⟩
 . have e1:(css++[cs]).flatten=css.flatten++cs:=by simp
   have e2:(xs++[z]).length=xs.length+1:=by simp
   rw [e1,e2];exact g1
 . have key:sh.rep w (λb=>R b/\v.ownBlock≠some b) y ds:=by
    by_cases hi:i<xs.length
    . rw [gJ hi] at hy;rw [gJ Ab] at hc;exact h3 i y ds hy hc
    . have hil:i<(xs++[z]).length:=by
       rcases gK i (xs++[z]).length with h|h
       . exact h
       . rw [gG h] at hy;cases hy
      simp only [gO,gD,hH] at hil;have hi':i=xs.length:=by omega
      subst hi';rw [gU (gI _)] at hy;rw [gU Ab] at hc;simp only [Nat.sub_self,gX,gy] at hy;rw [h2] at hc;simp only [Nat.sub_self,gX,gy] at hc;subst hy hc;exact hrep
   refine sh.mono (sh.lt key) (λb hb=>⟨hb.1.1,λe=>?_⟩) (λb o u hb hu=>g2.keep hb.1.2 hu);rw [g3] at e;simp only [iI,gy] at e;subst e;rcases g4 with h|h
   . exact hb.1.2 h
   . omega
def OwnQ.rows (h:OwnQ sh w R B e v xs) (hx:xs≠[]):∃g cap,v = .slice (some ⟨g,0,none⟩) xs.length cap/\B<=g/\g<w.heap.size /\ ∀(i:Nat) (x:α),xs[i]? = some x -> ∃cs,Row w ⟨g,i*sh.sz,none⟩ cs/\sh.rep w R x cs:=by
 obtain ⟨G,V,h2,X⟩:=h.ex;have hM:OwnM sh w R B e v xs:=⟨G,V,h2,λi y cs hy hc=>sh.mono (X i y cs hy hc) (λb O=>⟨gq O.1,O.2⟩) (λ_ _ _ _ Y=>Y)⟩
 rcases V.row with ⟨rfl,hn,-⟩|⟨g,cap,rfl,hg,ad,hr⟩
 . exact absurd (List.length_eq_zero_iff.1 hn) hx
 . refine ⟨g,cap,rfl,hg,(V.blk (k:=g) rfl).2,λi x U=>?_⟩;obtain ⟨g',ac,hv,-,M⟩:=hM.rows hx;simp only [gR,gy,Addr.mk.injEq,and_true,true_and] at hv;obtain ⟨rfl,rfl⟩:=hv;have ae:i<xs.length:=by
    rcases gK i xs.length with h|h
    . exact h
    . rw [gG h] at U;cases U
   have N:∀cs∈G,cs.length=sh.sz:=λcs Z=>by
    obtain ⟨j,hj,rfl⟩:=List.mem_iff_getElem.1 Z;have aa:xs[j]? = some xs[j]:=gm Ab;exact sh.len (X j _ _ aa (gm hj))
   have ab:G[i]? = some (G[i]'(by omega)):=gm Ab;obtain ⟨cs,k1,k2⟩:=M i x U;refine ⟨G[i]'(by omega),?_,sh.mono (X i x _ U ab) (λb O=>O.1) (λ_ _ _ _ Y=>Y)⟩;obtain ⟨f1,f2⟩:=Fq N (j:=i) Ab;rw [f1] at hr;have hs:=hr.sub (i*sh.sz) sh.sz;rw [iu,gZ,List.drop_left' f2,List.take_left' (N _ (gA _))] at hs;exact hs
end
section
variable {P:Program} {n:Nat} {l:Sl} {w:wD} {tab:Tab} {zt:Ei} {ty:TypeId} {α:Type} {sh:Shape α}
def Da {ops:Array Oper} {Q:Exit->Act->wD->Prop} {rest:List Oper} {d:Nat} {pos:String} {after:Array Edge} {x y:Operand} {t U B cap:Nat} {R R':nP} {sE:Sk} {zs:lV} {xs:List α} {z:α} {p:Addr} (T:TabOk P tab) (Z:Ch P zt) (ht:Az tab t=some (.slice e,U)) (hE:Az tab e=some (sE,sh.sz)) (hz:Cz zt e=some zs) (V:zs.length=sh.sz)
 (X:Dk P e=true) (Y:gM 0 sh.sz=true) (hx:ev l x=some v) (hy:ev l y=some (.slice (some p) 1 cap)) (M:OwnQ sh w R' B e v xs) (hw:∀b,R' b->R b) (hr:Row w p cs) (N:sh.rep w (λb=>R b/\v.ownBlock≠some b) z cs) (O:xs.length<=10000000000) (hB:B<=w.heap.size) (hd:gM d n=true)
 (k:∀g G w1,OwnQ sh w1 R B e (.slice (some ⟨g,0,none⟩) (xs++[z]).length G) (xs++[z])->(v.ownBlock=some g\/w.heap.size<=g)->g<w1.heap.size->Fr (λk=>v.ownBlock=some k) w w1->LW P n ops Q rest ((d,.slice (some ⟨g,0,none⟩) (xs++[z]).length G)::l) w1) :
 LW P n ops Q (⟨some d,.call ⟨.builtin .append,#[x,y],#[t,t]⟩,ty,pos,after,none⟩::rest) l w:=
 Ax (GN T Z ht hE hz V X Y hx hy M hw hr N O hB) hd (λv w1 ⟨g,cap,h,ho,h1,h2,hf⟩=>by subst h;exact k g cap w1 ho h1 h2 hf) aFh
end
section
variable {P:Program} {n:Nat} {l:Sl} {w:wD} {tab:Tab} {zt:Ei} {ty:TypeId}
def BW {S:wD->Prop} {f:Fn} {cs:List Operand} {vs:lV} (h:evs l cs=some vs):Bh P n l S (.makeFunc f #[] cs.toArray) ty (.func f #[] vs.toArray):=by
 unfold Bh;intro a w G pos after g M _;have e:=M.evs h;simp [execOp,Instr.makeFunc,e]
end
section
variable {P:Program} {n:Nat} {ops:Array Oper} {Q:Exit->Act->wD->Prop} {rest:List Oper} {l:Sl} {w:wD} {tab:Tab} {ty:TypeId} {pos:String} {after:Array Edge}
end
def Wg (kvs:List (lB×Value)) (k:lB) (v:Value) (s:lB):Ej (Gb kvs k v) s=if s=k then some v else Ej kvs s:=by
 induction kvs with
 | nil=>
  by_cases h:s=k
  . subst h;simp [Gb,Ej]
  . simp [Gb,Ej,h]
 | cons p r O=>
  obtain ⟨N,U⟩:=p;simp only [Gb];by_cases M:k=N
  . subst M;simp only [if_true,Ej];by_cases G:s=k
    . rw [AQ G,AQ G]
    . rw [AB G,AB G,AB G]
  . simp only [AB M,Ej,O];by_cases G:s=N
    . subst G;rw [AQ rfl,AB (λe=>M e.symm),AQ rfl]
    . rw [AB G,AB G]
def Yw (t:Nd) (hz:t.size<=1000000) (Rt:nP) (br:Nat) (a:oA) (ca:Nat) (w:wD) (Y:∀k,Rt k->k<w.heap.size) (ac:Rt br) (M:Blk w br (t.cells a ca)) (N:t.sits Rt w a) :
 IterOk prog 175 [.pointer (some ⟨br,0,none⟩)] Yu Rt t.walk w:=by
 intro y J Jx W hK hJ ak hY h0;have af:=hK.size;have al:=Y _ ac;have M:=M.fr hK (λe=>e ac);have N:=N.fr hK (λb hb e=>e hb);have ad:∀k,Rt k->k<W.heap.size:=λk U=>Nat.lt_of_lt_of_le (Y k U) af
 have HY:=gp hY;have HJ:=gp hJ;have H0:=gp h0;have HR:=gp ad;clear hY hJ h0 Y ad hK;have X:=iK W;show Calls _ _ #[.func (.yield y) #[] #[],.pointer (some ⟨br,0,none⟩)] W _;refine Ad func175 ntmps175 rfl rfl (cS (eB [_] ?_));intro b1 w2 V x5 p6 z7;revert M N X;refine eE x5 ?_;intro M N X;refine cN (eA [_] ?_);intro b8 w9 G ag am an;revert V M N X;refine eE ag ?_;intro V M N X;refine cN (eA [_] ?_);intro Z ao ah ai ap aq;revert G V M N X;refine eE ai ?_;intro G V M N X;refine cN (C1 (BW rfl) (eS [_] ah ?_));intro O ae aa ar;revert G V M;refine eF aa ?_;intro G V M;have N:=iL N aa (λb hb e=>by have:=HR.out _ hb;omega);have X:=X.fr aa Ab;refine eK ?_;obtain ⟨A,hA⟩:∃A:nP,A=λk=>W.heap.size<=k/\k<W.heap.size+3:=⟨_,rfl⟩
 have ab:∀k,A k->W.heap.size<=k/\k<O.heap.size:=λk U=>by rw [hA] at U;omega
 have J1:J A [] O:=HJ.out (λ_=>False) A [] W O H0.out ⟨X.os,X.tape,X.output,X.size,λk U _=>X.block U⟩ (λ_ h=>h.elim) (λk U=>(ab k U).1) (λk U h=>by have:=ab k h;omega);have ha:∀k,W.heap.size<=k->k<W.heap.size+3->A k:=λk h1 h2=>by rw [hA];exact ⟨h1,h2⟩
 have hV:VSt y W.heap.size b1 b8 Z A O (.slice none 0 0) 0:=⟨V,G,ae,⟨[],rfl,Own.nil⟩,ha _ Ab Ab,ha _ Ab Ab,ha _ Ab Ab,λg hg=>by simp [iI] at hg,⟨Ab,Ab⟩,ab⟩;have HX:=gp (Yv y W.heap.size b1 b8 Z Rt HR.out J Jx HJ.out t.walk HY.out (t.size+1) t A [] a ca O (.slice none 0 0) 0 Ab hz Ab N hV J1 (List.prefix_refl _));clear hA J1 ha hV ae G V M X;refine Ax (A9 (fi:=[]) (ca:=[.pointer (some ⟨b1,0,none⟩),.pointer (some ⟨b8,0,none⟩),.pointer (some ⟨Z,0,none⟩)]) AT rfl rfl HX.out (λ_ _ h=>h.ret)) rfl ?_ aFh;rintro _ au ⟨av,⟨⟩,aj⟩;refine Ak (Bi rfl ?_);obtain ⟨A',-,hc,⟨rfl,pv,-,hj,-⟩|⟨rfl,pre,hp,hj⟩⟩:=aj
 . exact ⟨⟨_,rfl⟩,A',hc,gq hj⟩
 . exact ⟨⟨_,rfl⟩,A',hc,gt ⟨pre,hp,hj⟩⟩
def WalkR (t:Nd) (w:wD):Ending->wD->Prop:=λe w'=> ∃br,e = .returned (.func (.func 175) #[] #[.pointer (some ⟨br,0,none⟩)])/\IterOk prog 175 [.pointer (some ⟨br,0,none⟩)] Yu (λk=>w.heap.size<=k/\k<w'.heap.size) t.walk w'/\Ext w w'
def WalkR.ret {t:Nd} {e:Ending} {w':wD} (h:WalkR t w e w'):∃v,e = .returned v:=by
 obtain ⟨_,h,-⟩:=h;exact ⟨_,h⟩
def Wh (t:Nd) (O:t.size<=1000000) (S:nP) (a:oA) (c:Nat) (w:wD) (U:t.sits S w a):Calls prog 148 #[t.val a c] w (WalkR t w):=by
 have X:=iK w;refine Ad func148 ntmps148 rfl rfl (cS (eB [_,_,_,_] ?_));intro b1 w2 h4 V p6 z7;revert U X;refine eE V ?_;intro U X;refine kQ (Jl _ O _ _ _ _ Af) ?_;rintro _ Y ⟨a8,c9,⟨⟩,h,G⟩;have Z:=G.size;have X:=X.ext G;refine xA [_,_,_,_] ?_;intro aa ab M;refine eI [_,_,_,_] M ?_;intro ac ad N ae af;revert h X;refine eE N ?_;intro h X;refine cN (C1 (BW rfl) (kR ?_));exact ⟨_,rfl,Yw t O _ _ _ _ _ (λk hk=>hk.2) ⟨Ab,Ab⟩ Af (iR Af (λb hb=>⟨Ab,Ab⟩)),X⟩
end Bk
namespace Bk
open Go Go.RowKit
def EnvD (D:List Deferred) (n:Nat) (l:Sl) (a:Act):Prop:=Env n l { a with defers:=[] }/\a.defers=D
def cP (P:Program) (D:List Deferred) (n:Nat) (c:Code) (Q:Exit->Act->wD->Prop) (l:Sl) (w:wD):Prop:= ∀a,EnvD D n l a->c.wp P Q a w
def RT (P:Program) (D:List Deferred) (n:Nat) (ops:Array Oper) (Q:Exit->Act->wD->Prop) (os:List Oper) (l:Sl) (w:wD):Prop:= ∀a,EnvD D n l a->wpList P ops Q os a w
def Jq (D:List Deferred) (n:Nat) (Q:Exit->Act->wD->Prop) (e:Exit) (l:Sl) (w:wD):Prop:= ∀a,EnvD D n l a->Q e a w
def EnvD.ev {D:List Deferred} {n:Nat} {l:Sl} {a:Act} (h:EnvD D n l a) {x:Operand} {v:Value} (G:ev l x=some v):a.eval x=v:=h.1.ev G
def EnvD.put {D:List Deferred} {n:Nat} {l:Sl} {a:Act} (h:EnvD D n l a) {d:Nat} (G:gM d n=true) (v:Value):EnvD D n ((d,v)::l) (a.put (some d) v):=⟨h.1.put G v,h.2⟩
section code
variable {P:Program} {D:List Deferred} {n:Nat} {Q:Exit->Act->wD->Prop} {l:Sl} {w:wD} {ops:Array Oper} {rest:List Oper} {d:Nat} {ty:TypeId} {pos:String} {after:Array Edge}
def Ig {x y:Code} (h:cP P D n x (Exit.then (y.wp P Q) Q) l w):cP P D n (.seq x y) Q l w:=λa G=>wp_seq (h a G)
def Dw {y:Code} (h:cP P D n y Q l w):Jq D n (Exit.then (y.wp P Q) Q) .normal l w:=h
def Eu {M:Nat} {G:List Oper} (h:RT P D n G.toArray Q G l w):cP P D n (.region M G.toArray false) Q l w:=λa N=>wp_region_lit (h a N)
def Jr (h:Jq D n Q .ret l w):cP P D n .ret Q l w:=λa G=>wp_ret (h a G)
def GO (h:Jq D n Q .normal l w):RT P D n ops Q [] l w:=h
def Fs {op:Op} {v:Value} (h:Bh P n l (· = w) op ty v) (M:gM d n=true) (k:RT P D n ops Q rest ((d,v)::l) w):RT P D n ops Q (⟨some d,op,ty,pos,after,none⟩::rest) l w:=λa G=>by
 unfold wpList;rw [AQ (Bc rfl)];left;have e:(execOp a.eval ⟨some d,op,ty,pos,after,none⟩).run P w = .ok (.value v) w:=by
  unfold Bh at h;have:=h { a with defers:=[] } w (some d) pos after none G.1 rfl;exact this
 unfold iB;rw [e];exact k _ (G.put M v)
def JX {tab:Tab} {x y:Operand} {t b:Nat} {s:Sk} {v u:Value} (T:TabOk P tab) (V:Az tab t=some (s,1)) (X:ev l x=some (.pointer (some ⟨b,0,none⟩))) (Y:ev l y=some v) (N:v.cells = #[v]) (Z:i6 v=true) (hb:Blk w b [u])
 (k:∀w1,Blk w1 b [v]->Fr (· = b) w w1->RT P D n ops Q rest l w1):RT P D n ops Q (⟨none,.store t x y,ty,pos,after,none⟩::rest) l w:=λa h=>by
 obtain ⟨w1,O,U⟩:=Fi (P:=P) [v] w b 0 0 [u] hb AN (by simp [Z]);have e:(execOp a.eval ⟨none,.store t x y,ty,pos,after,none⟩).run P w = .ok .skip w1:=by
  have G:v.cells.toList=[v]:=by rw [N]
  have M:v.cells.size=1:=by rw [N];rfl
  simp only [execOp,h.ev X,h.ev Y,Instr.storeAt,Instr.sureAddr,gE,gP,gw,storeVar,B3 (T _ _ _ V),M,G,O];simp only [ne_eq,not_true,if_false,gE,gP,gw,O]
 unfold wpList;rw [AQ (Bc rfl)];left;unfold iB;rw [e];exact k w1 U.blk U.fr _ h
end code
def Gk {P:Program} {f:FuncId} {fn:Func} {c:Code} {args:lV} {n:Nat} {w:wD} {R:Ending->wD->Prop}
 (M:P.funcs[f]? = some fn) (X:fn.ntmps=n) (N:fn.body=some c) (O:iy args.length n=true) (h:CW P n c (bodyPostM (WF none) 0 P fn R) (Gu 0 args) w):Calls P f args.toArray w R:=by
 refine wf_calls.1 (callsIn_of_wp_marks (F:=WF none) (n:=0) M N trivial (dB h _ ?_));have U:args.length<=n:=by simpa using O
 refine ⟨by simp;omega,rfl,λd v V=>?_⟩;obtain ⟨-,G⟩:=F9 d v args 0 V;simp only [Nat.sub_zero] at G;have:d<args.length:=by
  rcases gK d args.length with h|h
  . exact h
  . rw [gG h] at G;cases G
 rw [gm this] at G;simp only [gy] at G;simp [Array.getElem?_append,this,G]
def GP (b:Nat):List Deferred:=[{ target:=.collected b,args:= #[] }]
def PU {P:Program} {fn:Func} {tab:Tab} {t ty sz b:Nat} {s:Sk} {v:Value} {tmps:Array Value} {w:wD} (h:fn.results = #[.cell t ty]) (T:TabOk P tab) (M:Az tab ty=some (s,sz)) (N:s.agg=false) (G:tmps.getD t undef = .pointer (some ⟨b,0,none⟩)) (O:w.cell? ⟨b,0,none⟩=some v):(results fn tmps).run P w = .ok v w:=by
 have e:(loadVar ty ⟨b,0,none⟩).run P w = .ok v w:=by
  simp only [gE,gP,gw,loadVar,Co (T _ _ _ M),N];simp [load,Sem.run,O]
 simp only [Array.getD_eq_getD_getElem?] at G;simp [results,h,G,e,asAddr]
def Ih {w:wD} {m:Nat} {o:Obj} (G:Obj) (h:w.heap[m]? = some o):Fr (· = m) w (w.putObj m G):=⟨rfl,rfl,rfl,AN,λk _ M=>World.putObj_heap_other M⟩
def PV {P:Program} {fn:Func} {R:Ending->wD->Prop} {n m t:Nat} {l:Sl} {w:wD} {v:Value} (G:w.heap[m]? = some (.deferred (some []))) (h:fn.results = #[.tmp t]) (N:look l t=some v) (O:∀w',Fr (· = m) w w'->R (.returned v) w'):Jq (GP m) n (bodyPostM (WF none) 0 P fn R) .ret l w:=λa M=>by
 show LeavesInM _ _ _ _ _ _ a.defers _ _;rw [M.2];refine ⟨AN,.inl ⟨_,_,rfl,run_takeDeferred G,_,results_tmp h _ _ _,?_⟩⟩;rw [show a.tmps.getD t undef=v from M.1.has t v N];exact O _ (Ih _ G)
def PW {P:Program} {fn:Func} {R:Ending->wD->Prop} {n m t ty sz b:Nat} {s:Sk} {tab:Tab} {l:Sl} {w:wD} {v:Value} (M:w.heap[m]? = some (.deferred (some []))) (h:fn.results = #[.cell t ty]) (T:TabOk P tab) (U:Az tab ty=some (s,sz)) (V:s.agg=false) (X:look l t=some (.pointer (some ⟨b,0,none⟩))) (G:Blk w b [v]) (Y:∀w',Fr (· = m) w w'->R (.returned v) w'):Jq (GP m) n (bodyPostM (WF none) 0 P fn R) .ret l w:=λa O=>by
 show LeavesInM _ _ _ _ _ _ a.defers _ _;rw [O.2];have N:b≠m:=λe=>by
  obtain ⟨ty,G⟩:=G;rw [e,M] at G;cases G
 exact ⟨AN,.inl ⟨_,_,rfl,run_takeDeferred M,_,PU h T U V (O.1.has t _ X) (iV (G.fr (Ih _ M) N) rfl),Y _ (Ih _ M)⟩⟩
def Ii (P:Program) (r:Option Nat) (Kp:nP) (m:Nat) (body:Code) (Q:wD->Exit->Act->wD->Prop) (W:wD):Act->wD->Prop:=λa₁ W₁=>Keeps Kp W W₁ /\ ∀W₂,Fr (· = m) W₁ W₂->body.wpIn (WF r) 0 P (Q W₂) a₁ W₂
def Ij {P:Program} {n:Nat} {r:Option Nat} {Kp:nP} {m:Nat} {h:Code} {Q:wD->Exit->Act->wD->Prop} {W:wD} {G:Exit->Act->wD->Prop} {l:Sl} {w:wD} (N:Keeps Kp W w) (O:∀M,Fr (· = m) w M->CR P n r h (Q M) l M):QW n (Exit.then (Ii P r Kp m h Q W) G) .normal l w:=by
 unfold QW;exact λa U=>⟨N,λM V=>O M V a U⟩
def Gl {K:Act->wD->Prop}:¬LetsOut (Exit.then K (λ_ _ _=>False)):=λ⟨_,_,h⟩=>h
def PX {α:Type} {P:Program} {n:Nat} {g:Operand} {p q:Tmp} {G U:Code} {Q:Exit->Act->wD->Prop} {l:Sl} {w:wD} {gf:Nat} {lb:lV} {rep:Nat->wD->lV->α->Prop} {Rt:nP} {S:List α}
 (hp:gM p n=true) (hq:gM q n=true) (hg:ev l g=some (.func (.func gf) #[] lb.toArray)) (eg:BT P gf=true) (ab:IterOk P gf lb rep Rt S w) (aa:∀c W vs x,rep c W vs x -> ∃u v,vs=[u,v]) (ac:∀k,Rt k->k<w.heap.size)
 (J Jx:(nP)->List α->wD->Prop) (hJ:Et w.heap.size J) (ad:Et w.heap.size Jx) (h0:J (λ_=>False) [] w)
 (N:∀r A pre x u v W,(∀k,A k->w.heap.size<=k/\k<W.heap.size)->A (w.heap.size+1)->J A pre W->rep (w.heap.size+2) W [u,v] x->(pre++[x]) <+: S ->
  CR P n (some r) G (Exit.then (Ii P (some r) (λk=>A k\/Rt k) (w.heap.size+1) U (λW₂=>Eb (λk=>A k\/Rt k) J Jx A (pre++[x]) W₂) W) (λ_ _ _=>False)) ((q,v)::(p,u)::l) W)
 (X:∀A W,(∀k,A k->w.heap.size<=k)->J A S W->A w.heap.size->W.heap[w.heap.size]? = some (.deferred (some []))->Jq (GP w.heap.size) n Q .normal l W)
 (Y:∀A pre W,(∀k,A k->w.heap.size<=k)->pre <+: S->Jx A pre W->A w.heap.size->W.heap[w.heap.size]? = some (.deferred (some []))->Jq (GP w.heap.size) n Q .ret l W) :
 CW P n (.rangeFunc g #[p,q] G U) Q l w:=by
 refine Tb λa O=>?_
 refine RQ (O.ev hg) eg ab (λc W vs x h=>by obtain ⟨u,v,rfl⟩:=aa c W vs x h;rfl) ac J Jx hJ ad h0 (λr A pre x vs W hA ae hj V M=>?_) (λA W hA hj Z hk=>?_) (λA pre W hA M hj Z hk=>?_)
 . obtain ⟨u,v,rfl⟩:=aa _ W vs x V;refine N r A pre x u v W hA ae hj V M _ ?_;have e1:Env n l { a with defers:=[] }:=⟨O.size,rfl,O.has⟩
   simpa [Act.put] using (e1.put hp u).put hq v
 . exact X A W hA hj Z hk _ ⟨⟨O.size,rfl,O.has⟩,by rw [O.defers];rfl⟩
 . exact Y A pre W hA M hj Z hk _ ⟨⟨O.size,rfl,O.has⟩,by rw [O.defers];rfl⟩
def Ik {D:List Deferred} {n i:Nat} {Q:Exit->Act->wD->Prop} {l:Sl} {w:wD} (h:Jq D n Q .normal l w):Jq D n (Exit.inBlock i Q) .normal l w:=h
def Iy {D:List Deferred} {n i:Nat} {Q:Exit->Act->wD->Prop} {l:Sl} {w:wD} (h:Jq D n Q .ret l w):Jq D n (Exit.inBlock i Q) .ret l w:=h
def Js {D:List Deferred} {n:Nat} {K:Act->wD->Prop} {Q:Exit->Act->wD->Prop} {l:Sl} {w:wD} (h:Jq D n Q .ret l w):Jq D n (Exit.then K Q) .ret l w:=h
section
variable {α:Type} {n:Nat} {Kp:nP} {J Jx:(nP)->List α->wD->Prop} {A:nP} {xs:List α} {W w:wD} {l:Sl}
def IT (h:Keeps Kp W w) (G:J A xs w):QW n (Eb Kp J Jx A xs W) .normal l w:=by unfold QW;exact λ_ _=>⟨h,G⟩
def Wi (h:Keeps Kp W w) (G:Jx A xs w):QW n (Eb Kp J Jx A xs W) .ret l w:=by unfold QW;exact λ_ _=>⟨h,G⟩
def Yx {P:Program} {r:Option Nat} {Q:Exit->Act->wD->Prop} {x y:Code} {ι:Type} (L:ι->Sl) (I:ι->wD->Prop) (h:CR P n r x (Exit.then (λa w=> ∃i,Env n (L i) a/\I i w) Q) l w) (k:∀i w,I i w->CR P n r y Q (L i) w):CR P n r (.seq x y) Q l w:=λa G=>
 wpIn_seq (wpIn_mono (h a G) (λe a w q=>by
  cases e with
  | normal=>obtain ⟨i,M,N⟩:=q;exact k i w N a M
  | _=>exact q))
end
section
variable {P:Program} {n:Nat} {r:Option Nat} {Q:Exit->Act->wD->Prop} {l:Sl} {w:wD} {c:Operand} {x y:Code}
def IU {p:Prop} [Decidable p] (h:ev l c=some (.bool (decide p))) (G:p->CR P n r x Q l w) (M:¬p->CR P n r y Q l w):CR P n r (.cond c x y) Q l w:=Tc h (λe=>G (of_decide_eq_true e)) (λe=>M (of_decide_eq_false e))
def Wj {p:Prop} [Decidable p] (G:ev l c=some (.bool (decide p))) (M:p) (h:CR P n r x Q l w):CR P n r (.cond c x y) Q l w:=IU G (λ_=>h) (λe=>absurd M e)
def ZS {p:Prop} [Decidable p] (G:ev l c=some (.bool (decide p))) (M:¬p) (h:CR P n r y Q l w):CR P n r (.cond c x y) Q l w:=IU G (λe=>absurd e M) (λ_=>h)
def Wk {b:Bool} (h:ev l c=some (.bool !b)) (G:b=false->CR P n r x Q l w) (M:b=true->CR P n r y Q l w):CR P n r (.cond c x y) Q l w:=Tc h (λe=>G (by simpa using e)) (λe=>M (by simpa using e))
end
attribute [irreducible] cP RT Jq
open Go.Proofs
variable {j:Nat} {α:Type} {w:wD} {l:List Nd} {n:Int} {a:oA} {S:nP} {s:lB}
attribute [local irreducible] Go.Calls
def Nd.isRef (s:lB) (m:Nd):Bool:=decide (2<=m.kind/\m.kind<=5)&&decide (m.name=s)
def Nd.ment (s:lB) (t:Nd):Bool:=t.walk.any (Nd.isRef s)
def ZT {c:Nat} {vs:lV} {x:Nd} (h:Yu c w vs x):∃u v,vs=[u,v]:=by
 obtain ⟨G,M,N,a,c,rfl,-⟩:=h;exact ⟨_,_,rfl⟩
def LP (t:Nd) (hz:t.size<=1000000) (s:lB) (S:nP) (a:oA) (c:Nat) (w:wD) (hs:t.sits S w a):Calls prog 178 #[t.val a c,str s] w λe w'=>e = .returned (.bool (t.ment s))/\Ext w w':=by
 have X:=iK w;refine Gk (args:=[_,_]) func178 ntmps178 rfl rfl (cS (eB [_,_,_,_] ?_));intro b1 w2 h4 x5 p6 z7;revert hs X;refine eE x5 ?_;intro hs X;refine eB [_] ?_;intro b8 w9 M ae av aw;revert h4 hs X;refine eE ae ?_;intro h4 hs X;refine eA [_] ?_;intro O af Z ag ax z22;revert M h4 hs X;refine eE ag ?_;intro M h4 hs X;refine kQ (Wh _ hz _ _ _ _ Af) ?_;rintro _ ab ⟨au,⟨⟩,ac,ah⟩;revert Z M X;refine eY ah ?_;intro ay Z M X;refine cT ?_;refine As ?_;obtain ⟨m,hm⟩:∃m,m=ab.heap.size:=⟨_,rfl⟩;refine PX rfl rfl rfl AT ac (λ_ _ _ _ h=>ZT h) (λk G=>G.2)
  (λA xs W=>Blk W b8 [str s]/\Blk W O [.bool false]/\xs.any (Nd.isRef s)=false/\Ext w W)
  (λA xs W=>Blk W O [.bool true]/\xs.any (Nd.isRef s)=true/\Ext w W) ?_ ?_ ⟨M,Z,rfl,X⟩ ?_ ?_ ?_
 . rintro A A' xs W W' ⟨h1,h2,h3,x⟩ hf N - -;exact ⟨h1.fr hf (λe=>by have:=N _ e;omega),h2.fr hf (λe=>by have:=N _ e;omega),h3,iY x hf (λk G=>by have:=N _ G;omega)⟩
 . rintro A A' xs W W' ⟨h1,h2,x⟩ hf N - -;exact ⟨h1.fr hf (λe=>by have:=N _ e;omega),h2,iY x hf (λk G=>by have:=N _ G;omega)⟩
 . rintro r A pre x u v W N ai ⟨j1,j2,j3,Y⟩ ⟨pa,pn,pc,xa,xc,e,sx,-⟩ U;simp only [ig,and_true] at e;obtain ⟨rfl,rfl⟩:=e;clear ac Z M h4 hs X;have az:=N _ ai;have ad:(pre++[x]).any (Nd.isRef s)=x.isRef s:=by rw [List.any_append,j3];simp
   obtain ⟨k,n,sn,l⟩:=x;have X1:=iK W;refine Bp rfl Gl (xA [_,_,_,_] ?_);intro aj a0 ak;refine eI [_,_,_,_] ak ?_;intro a1 V al a2 a3;revert j1 j2 Y X1;refine eE al ?_;intro j1 j2 Y X1;refine Ak (Ij (Keeps.of_ext X1) λW2 f2=>?_)
   revert V j1 j2;refine eF f2 ?_;intro V j1 j2;have Y:=iY Y f2 (λk G=>by omega);have a4:=f2.size;have a5:∀k,A k->k<W2.heap.size:=λk G=>by have:=N k G;omega
   have HA:=gp N;clear sx X1 f2 N;simp only [jj,Nd.num,Nd.name,jp] at V;refine Gj (C9 (Bp rfl (Bt (Bw BV)) (C1 Pg (C1 (Pl V) (Ak (Cl (Gj (Yx (ι:=Unit) (λ_=>[(3,.pointer (some ⟨b8,0,none⟩)),(4,.pointer (some ⟨O,0,none⟩)),(6,.pointer (some ⟨aj,0,none⟩)),(13,.bool (decide (2<=k/\k<=5)))]) (λ_ w'=>w'=W2) ?_ ?_))))))))
   . focus
      refine C9 (Bp rfl (Bt (Bt (Bw (Bw BV)))) (C1 V1 (C1 Pa (Ak (Cl (IU rfl (λam=>?_) (λam=>?_)))))));refine FN ?_;rotate_left;refine C9 (Bp rfl (Bt (Bt (Bw (Bw BV)))) (C1 V1 (C1 Pa (Ak (Cl (IU rfl (λan=>?_) (λan=>?_)))))));refine FN ?_;rotate_left;refine C9 (Bp rfl (Bt (Bt (Bw (Bw BV)))) (C1 V1 (C1 Pa (Ak (Cl (IU rfl (λao=>?_) (λao=>?_)))))));refine FN ?_;rotate_left;refine Bp rfl (Bt (Bw (Bw BV))) (eK ?_);rotate_left
     all_goals exact BS () (Am rfl (Am rfl (Am rfl (BL rfl (congrArg Value.bool (decide_eq_decide.2 Ab)) BB)))) rfl
   . rintro-W3 h;subst h;have X3:=iP (λk=>k=O) W3;have hb:∀k,A k\/(af.heap.size<=k/\k<ab.heap.size) -> ¬k=O:=λk G e=>by
      rcases G with G|G
      . have:=HA.out k G;omega
      . omega
     have hy:=ad;unfold Nd.isRef at hy;simp only [jj,Nd.name] at hy;clear ad U
     focus
      refine IU rfl (λap=>?_) (λap=>?_);refine C9 (Bp rfl (Bt (Bw (Bw BV))) (C1 Pf (C1 (Pl V) (C1 (Pl j1) (C1 V8 (Ak (Cl (IU rfl (λaq=>?_) (λaq=>?_)))))))));refine C9 (Bp rfl (Bt (Bw (Bw BV))) (eS [_] j2 ?_));intro a6 a7 ar _;revert Y X3;refine eF ar ?_;intro Y X3;refine Ak (Cl (We (AJ (AJ ?_))));rotate_left;refine FN (Ah (Ah ?_));rotate_left;refine FN (Ah (Ah ?_));rotate_left
     . exact Wi (Keeps.of_fr X3 hb) ⟨Af,hy.trans (by simp [*]),Af⟩
     . exact IT (Keeps.of_fr X3 hb) ⟨Af,Af,hy.trans (by simp [*]),Af⟩
     . refine IT (Keeps.of_fr X3 hb) ⟨Af,Af,hy.trans ?_,Af⟩;rw [Bool.and_eq_false_iff];exact gq (decide_eq_false Ab)
 . rintro A W N ⟨j1,j2,j3,Y⟩-G;refine Ik (Dw (Ig (Eu (JX Ac rfl rfl rfl rfl rfl j2 (λw1 hb hf=>GO (Dw (Jr (PW ?_ rfl Ac rfl rfl rfl hb (λw2 aa=>⟨by rw [Nd.ment,j3],iY (iY Y hf (λk e=>by omega)) aa (λk e=>by omega)⟩)))))))));rw [hf.block _ (Array.getElem?_eq_some_iff.1 G).1 Ab];exact G
 . rintro A pre W N U ⟨j1,j2,Y⟩-G;refine Iy (Js (PW G rfl Ac rfl rfl rfl j1 (λw2 aa=>⟨?_,iY Y aa (λk e=>by omega)⟩)));obtain ⟨q,hq⟩:=U;rw [Nd.ment,<-hq,List.any_append,j2];rfl
def Hi (k:Nat):Shape Unit where
 sz:=k
 rep _ _ _ cs:=cs.length=k/\cs.all i6=true
 len h:=h.1
 one h:=h.2
 mono h _ _:=h
 lt h:=h
def Gm:Shape (Int×Bool) where
 sz:=6
 rep _ _ x cs:= ∃(k n:Int) (s:lB) (a:oA) (m c:Nat),cs=[.int .u8 k,.int .i64 n,str s,.slice a m c,.int .i64 x.1,.bool x.2]
 len h:=by obtain ⟨_,_,_,_,_,_,rfl⟩:=h;rfl
 one h:=by obtain ⟨_,_,_,_,_,_,rfl⟩:=h;rfl
 mono h _ _:=h
 lt h:=h
def NodeR (w:wD):Ending->wD->Prop:=λe w'=> ∃(k n:Int) (s:lB) (a:oA) (m c:Nat),e = .returned (.agg #[.int .u8 k,.int .i64 n,str s,.slice a m c])/\Ext w w'
def NodeR.ret {e:Ending} {w':wD} (h:NodeR w e w'):∃v,e = .returned v:=by
 obtain ⟨_,_,_,_,_,_,h,-⟩:=h;exact ⟨_,h⟩
def Il (v:Int) (w:wD) (h:0<=v):Calls prog 231 #[.int .i64 v] w (NodeR w):=by
 have X:=iK w;refine Ad func231 ntmps231 rfl rfl (cS (eA [_,_,_,_] ?_));intro V Y N O Z z8;have X:=X.ext O;refine eK ?_;refine C1 (xB [_,_,_,_]) (eS [_,_,_,_] N ?_);intro w9 G M U;have X:=X.fr M Ab;refine kX G ?_;exact ⟨_,_,[],_,_,_,rfl,X⟩
def Ux (v:Int) (w:wD) (h : -9223372036854775808<=v):Calls prog 231 #[.int .i64 v] w (NodeR w):=by
 by_cases h0:0<=v
 . exact Il v w h0
 by_cases h1:v = -9223372036854775808
 . subst h1;have X:=iK w;refine Ad func231 ntmps231 rfl rfl ?_;refine cS (eA [_,_,_,_] ?_);intro b1 w2 M x6 p7 z8;have X:=X.ext x6;refine eK ?_;refine eQ rfl (Il _ _ Ab) ?_;rintro _ aq ⟨k9,ar,au,av,aw,ax,⟨⟩,Z⟩;revert M X;refine eE Z ?_;intro M X;refine eQ rfl (Il _ _ Ab) ?_;rintro _ ay ⟨az,a0,a1,a2,a3,a4,⟨⟩,aa⟩;revert M X;refine eE aa ?_;intro M X;refine Ax (xS [_,_,_,_,_,_,_,_]) rfl ?_ aFh;rintro _ a5 ⟨a6,rfl,ab,a7⟩;have ac:=ab.ext;revert M X;refine eE ac ?_;intro M X;refine C1 (xB [_,_,_,_]) (eS [_,_,_,_] M ?_);intro a8 ad ae _;have X:=X.fr ae Ab;refine eK ?_;refine xC ad ?_;exact ⟨_,_,[],_,_,_,rfl,X⟩
 . have X:=iK w;have hw:0<=Lp (0-v):=by
    have:Lp (0-v)=0-v:=by unfold Lp;rw [iG];simp [IntKind.signed,IntKind.bits];omega
    omega
   refine Ad func231 ntmps231 rfl rfl ?_;refine cS (eA [_,_,_,_] ?_);intro a9 ba G af bb bc;have X:=X.ext af;refine eK ?_;refine C1 (Lq rfl) (eQ rfl (Il _ _ hw) ?_);rintro _ ag ⟨bd,ah,ai,aj,ak,al,⟨⟩,N⟩;revert G X;refine eE N ?_;intro G X;refine Ax (xS [_,_,_,_]) rfl ?_ aFh;rintro _ am ⟨an,rfl,O,ao⟩;have U:=O.ext;revert G X;refine eE U ?_;intro G X;refine C1 (xB [_,_,_,_]) (eS [_,_,_,_] G ?_);intro ap V Y _;have X:=X.fr Y Ab;refine eK ?_;refine xC V ?_;exact ⟨_,_,[],_,_,_,rfl,X⟩
def F0 (k n:Int) (kids:List (Int×Bool)):Int×Bool:=
 if kids.all (·.2)=true then
  if k=1 then (n,true) else if k=2\/k=3\/k=4\/k=5 then (0,false)
  else if k=6\/k=7 then ((Er k (kids.getD 0 (0,false)).1).1,decide ((Er k (kids.getD 0 (0,false)).1).2=0))
  else ((Ep k (kids.getD 0 (0,false)).1 (kids.getD 1 (0,false)).1).1,decide ((Ep k (kids.getD 0 (0,false)).1 (kids.getD 1 (0,false)).1).2=0))
 else (0,false)
def Tf (x:Int×Bool):Int×Bool:=if x.2=true then x else (0,false)
mutual
def Nd.cval:Nd->Int×Bool
 | .mk k n _ l=>Tf (F0 k n (GQ l))
def GQ:List Nd->List (Int×Bool)
 | []=>[]
 | t::r=>t.cval::GQ r
end
def KI:∀l:List Nd,GQ l=l.map Nd.cval
 | []=>rfl
 | t::r=>by rw [GQ,KI r,im]
def FoldR (t:Nd) (w:wD):Ending->wD->Prop:=λe w'=> ∃(k n:Int) (s:lB) (a:oA) (m c:Nat),e = .returned (.agg #[.int .u8 k,.int .i64 n,str s,.slice a m c,.int .i64 t.cval.1,.bool t.cval.2])/\Ext w w'
def FoldR.ret {t:Nd} {e:Ending} {w':wD} (h:FoldR t w e w'):∃v,e = .returned v:=by
 obtain ⟨_,_,_,_,_,_,h,-⟩:=h;exact ⟨_,h⟩
def EachR {α:Type} (sh:Shape α) (e:Nat) (xs:List α) (w:wD):Ending->wD->Prop:=λr w'=> ∃a c,r = .returned (.slice a xs.length c)/\OwnQ sh w' (λ_=>False) w.heap.size e (.slice a xs.length c) xs/\Ext w w'
def EachR.ret {sh:Shape α} {e:Nat} {xs:List α} {r:Ending} {w':wD} (h:EachR sh e xs w r w'):∃v,r = .returned v:=by
 obtain ⟨_,_,h,-⟩:=h;exact ⟨_,h⟩
def Yy (l:List Nd) (hl:l.length<=1000000) (S:nP) (a:oA) (c:Nat) (w:wD) (M:rowSits S w l a)
 (hC:∀x∈l,∀(S:nP) (a:oA) (c:Nat) (w:wD),x.sits S w a->Calls prog 218 #[x.val a c] w (FoldR x w)) :
 Calls prog 229 #[.slice a l.length c,.func (.func 218) #[] #[]] w (EachR Gm 272 (l.map Nd.cval) w):=by
 have HC:=gp hC;clear hC;have M:=B6 _ _ M;have X:=iK w;refine Ad func229 ntmps229 rfl rfl (cS (C1 Pa (cN (C1 Pa (cT (Aj (cS (C1 Mv (C1 Pz (C1 Mv (cT ?_)))))))))));refine As ?_;refine AG (ι:=Nat×oA×Nat) (λx=>[(1,.func (.func 218) #[] #[]),(5,.slice x.2.1 ((l.take x.1).map Nd.cval).length x.2.2),(8,.slice a l.length c),(9,.int .i64 l.length),(10,.int .i64 x.1)])
  (λx w'=>OwnQ Gm w' (λ_=>False) w.heap.size 272 (.slice x.2.1 ((l.take x.1).map Nd.cval).length x.2.2) ((l.take x.1).map Nd.cval)/\x.1<=l.length/\rowSits (· < w.heap.size) w' l a/\Ext w w')
  (λx=>l.length-x.1) (0,none,0) sB ⟨OwnQ.nil,gC _,M,X⟩ ?_
 clear M X;rintro ⟨j,ra,rc⟩ w1 ⟨G,hj,M,X⟩;simp only at G hj M X;have Z:∀g,(gN ra ((l.take j).map Nd.cval).length rc).ownBlock=some g->w.heap.size<=g/\g<w1.heap.size:=λg h=>⟨G.ge h,G.lt h⟩
 have az:=X.size;by_cases V:j<l.length
 . obtain ⟨kb,ko,rfl,kS,Y⟩:=BI M (by intro e;subst e;simp at V);obtain ⟨xa,xc,rx,sx⟩:=Y j l[j] (gm V);have HX:=gp (HC.out l[j] (gA V));have O:(l.take j).map Nd.cval++[l[j].cval]=(l.take (j+1)).map Nd.cval:=by rw [gx V,List.map_append];rfl
   have a0:((l.take j).map Nd.cval).length<=1000000:=by simp;omega
   clear Y HC;generalize l[j]=x at *;refine eK ?_;refine xA [_,_,_,_] ?_;intro a1 a2 ad;refine eI [_,_,_,_] ad ?_;intro a3 a4 ae a5 a6;revert G X M sx;refine eE ae ?_;intro G X M sx;refine eK ?_;refine Ax (A9 (fi:=[]) (ca:=[]) AT rfl rfl (HX.out _ _ _ _ Af) (λ_ _ h=>h.ret)) rfl ?_ aFh;rintro _ af ⟨a7,ag,ah,ai,aj,ak,⟨⟩,aa⟩;revert G X M;refine eY aa ?_;intro al G X M;refine Ax (xS [_,_,_,_,_,_]) rfl ?_ aFh;rintro _ am ⟨an,rfl,N,ao⟩;have ap:=N.blk;have ab:=N.ext;have aq:=N.pos;have ar:=N.size;revert G X M;refine eE ab ?_;intro G X M;refine Da (R:=λ_=>False) (sh:=Gm) (z:=x.cval) Ac Cs rfl rfl rfl rfl AT rfl rfl rfl Af (λ_ h=>by exact h) (i7 Af) ⟨_,_,_,_,_,_,rfl⟩ Ab Ab rfl ?_;rintro au ac av aw ax ay U;clear G;have X:=iY X U (λk hk=>by have:=Z _ hk;omega);have M:=jh M U (λb hb h=>by have:=Z _ h;omega);clear rx U;refine C1 Pa (Ak (Ah (Ai (Al (C1 V7 (C1 Mv (Ak ?_)))))));rw [O];exact Aw (j+1,some ⟨_,0,none⟩,_) sB ⟨by simp only;rw [<-O];assumption,by simp only;omega,M,X⟩ (by simp only;omega)
 . obtain rfl:j=l.length:=by omega
   rw [gF] at G;refine kR ?_;simp only [gF];exact ⟨_,_,rfl,G,X⟩
def KidsAt (w:wD) (a:oA) (kids:List (Int×Bool)):Prop:=kids=[] \/ ∃b o,a=some ⟨b,o,none⟩/\b<w.heap.size /\ ∀(i:Nat) (x:Int×Bool),kids[i]? = some x -> ∃(k n:Int) (s:lB) (c:oA) (m d:Nat),Row w ⟨b,o+i*6,none⟩ [.int .u8 k,.int .i64 n,str s,.slice c m d,.int .i64 x.1,.bool x.2]
def KidsAt.ext {w w':wD} {a:oA} {kids:List (Int×Bool)} (h:KidsAt w a kids) (x:Ext w w'):KidsAt w' a kids:=h.imp id λ⟨b,o,h1,h2,h3⟩=>⟨b,o,h1,Nat.lt_of_lt_of_le h2 x.size,λi y G=>by
 obtain ⟨k,n,s,c,m,d,r⟩:=h3 i y G;exact ⟨k,n,s,c,m,d,r.ext x⟩⟩
instance {w':wD} {kids:List (Int×Bool)}:LfE w w' (KidsAt w a kids) (KidsAt w' a kids):=⟨λx h=>Bk.KidsAt.ext h x⟩
def OwnQ.kidsAt {R:nP} {B e cap m:Nat} {kids:List (Int×Bool)} (h:OwnQ Gm w R B e (.slice a m cap) kids):KidsAt w a kids:=by
 by_cases M:kids=[]
 . exact gq M
 . obtain ⟨g,N,O,-,U,G⟩:=h.rows M;simp only [gR] at O;obtain ⟨rfl,-,-⟩:=O;refine gt ⟨g,0,rfl,U,λi x V=>?_⟩;obtain ⟨cs,X,k,n,s,c,m,d,rfl⟩:=G i x V;exact ⟨k,n,s,c,m,d,by simpa [Gm] using X⟩
set_option maxHeartbeats 8000000 in
def Yz (k n:Int) (s:lB) (l:List Nd) (na:oA) (nc:Nat) (kids:List (Int×Bool)) (a:oA) (c:Nat) (w:wD) (hl:kids.length<=1000000) (G:KidsAt w a kids) (h1:k=6\/k=7->kids.length=1) (h2:8<=k->kids.length=2) (h0:1<=k) :
 Calls prog 230 #[(Nd.mk k n s l).val na nc,.slice a kids.length c] w λe w'=>e = .returned (.tuple #[.int .i64 (F0 k n kids).1,.bool (F0 k n kids).2])/\Ext w w':=by
 have X:=iK w;have HK:=gp G;clear G;refine Ad func230 ntmps230 rfl rfl (cS (eB [_,_,_,_] ?_));intro b1 w2 Z x5 _ _;have X:=X.ext x5;refine C1 Pa (C1 Pa (cT (Aj (cS (C1 Mv (C1 Pz (C1 Mv (cT ?_))))))));refine As ?_;refine AG (ι:=Nat) (λj=>[(1,.slice a kids.length c),(2,.pointer (some ⟨b1,0,none⟩)),(10,.slice a kids.length c),(11,.int .i64 kids.length),(12,.int .i64 j)])
  (λj w'=>j<=kids.length/\Blk w' b1 [.int .u8 k,.int .i64 n,str s,.slice na l.length nc]/\Ext w w'/\(kids.take j).all (·.2)=true)
  (λj=>kids.length-j) 0 sB ⟨gC _,Z,X,rfl⟩ ?_
 clear Z X;rintro j w2 ⟨hj,Z,X,O⟩;by_cases aa:j<kids.length
 . rcases HK.out.ext X with G|⟨b,o,rfl,hb,G⟩
   . subst G;simp at aa
   obtain ⟨k',n',s',c',m',d',r0⟩:=G j kids[j] (gm aa);have ac:(kids.take (j+1)).all (·.2)=kids[j].2:=by rw [gx aa,List.all_append,O];simp
   have ae:kids[j].2=false->kids.all (·.2)=false:=λh=>by
    rw [List.all_eq_false];exact ⟨kids[j],gA aa,by rw [h];simp⟩
   clear G;generalize kids[j]=x at *
   focus
    refine eK ?_;refine xA [_,_,_,_,_,_] ?_;intro ay az aj;refine eI [_,_,_,_,_,_] aj ?_;intro a0 ak al _ _;revert Z X;refine eE al ?_;intro Z X;refine cN (C1 Pf (C1 (Pl ak) (C1 Pt (cT (I9 rfl (λam=>?_) (λam=>?_))))));refine kT ?_;rotate_left;refine Ao (Ah (Ai (Al (C1 V7 (C1 Mv (Ak ?_))))));rotate_left
   . exact ⟨by rw [F0,AB (by rw [ae Af];simp)],X⟩
   . exact Aw (j+1) sB ⟨Ab,Z,X,ac.trans Af⟩ Ab
 . obtain rfl:j=kids.length:=by omega
   rw [gF] at O;have hv:F0 k n kids=if k=1 then (n,true) else if k=2\/k=3\/k=4\/k=5 then (0,false) else if k=6\/k=7 then ((Er k (kids.getD 0 (0,false)).1).1,decide ((Er k (kids.getD 0 (0,false)).1).2=0)) else ((Ep k (kids.getD 0 (0,false)).1 (kids.getD 1 (0,false)).1).1,decide ((Ep k (kids.getD 0 (0,false)).1 (kids.getD 1 (0,false)).1).2=0)):=by rw [F0,AQ O]
   rw [hv];clear O hv;by_cases k5:k<=5
   . clear h1 h2 HK
     focus
      refine eK ?_;refine Ay rfl (λan=>?_) (λan=>?_);refine kT ?_;rotate_left;refine eK ?_;refine Ay rfl (λao=>?_) (λao=>?_);refine kT ?_;rotate_left;refine eK ?_;refine Ay rfl (λap=>?_) (λap=>?_);refine kT ?_;rotate_left;refine eK ?_;refine Ay rfl (λaq=>?_) (λaq=>?_);refine kT ?_;rotate_left;refine kT ?_;rotate_left
     all_goals (refine ⟨?_,X⟩;first|rw [AQ Ab]|rw [AB Ab,AQ Ab])
   by_cases k7:k<=7
   . have ad:=h1 Ab
     match kids,ad with
     | [x],_=>
      rcases HK.out.ext X with G|⟨b,o,rfl,hb,G⟩
      . cases G
      obtain ⟨k',n',s',c',m',d',r0⟩:=G 0 x rfl;clear h1 h2 HK G
      focus
       refine eK ?_;refine Ay rfl (λar=>?_) (λar=>?_);refine eK ?_;refine Aq (λU=>Ext w2 U) 11 (.pure 0 (.pure 1 (.pure 2 (.pure 3 (.pure 4 (.pure 5 (.fork 6 (.pure 7 (.pure 8 (.pure 9 (.pure 10 .tail)))) .none))))))) mixed AT (Ae (Aa Ag)) ?_;intro au af _;have V:(λU=>Ext w2 U) au:=af;simp only at V;have ab:=Z;have M:=r0;have X:=X.ext af;refine ⟨V,?_⟩;refine eT ?_;refine Tq rfl (Dr M) (tC rfl rfl (N8 _ _ _) ?_);rintro _ a1 ⟨⟨⟩,rfl⟩;refine ⟨V,?_⟩;refine Tq rfl Mv (Tq rfl Px (Tq rfl Px (Tq rfl Pa (At rfl (kT ?_)))));rotate_left;refine eK ?_;refine Aq (λU=>Ext w2 U) 11 (.pure 0 (.pure 1 (.pure 2 (.pure 3 (.pure 4 (.pure 5 (.fork 6 (.pure 7 (.pure 8 (.pure 9 (.pure 10 .tail)))) .none))))))) mixed AT (Ae (Aa Ag)) ?_;intro av ag _;have N:(λU=>Ext w2 U) av:=ag;simp only at N;have ab:=Z;have M:=r0;have X:=X.ext ag;refine ⟨N,?_⟩;refine eT ?_;refine Tq rfl (Dr M) (tC rfl rfl (N8 _ _ _) ?_);rintro _ ax ⟨⟨⟩,rfl⟩;refine ⟨N,?_⟩;refine Tq rfl Mv (Tq rfl Px (Tq rfl Px (Tq rfl Pa (At rfl (kT ?_)))));rotate_left
      all_goals (refine ⟨?_,X⟩;rw [AB Ab,AB Ab,AQ Ab];rfl)
   . have ad:=h2 Ab
     match kids,ad with
     | [x,y],_=>
      rcases HK.out.ext X with G|⟨b,o,rfl,hb,G⟩
      . cases G
      obtain ⟨k',n',s',c',m',d',r0⟩:=G 0 x rfl;obtain ⟨a2,a3,a4,a5,a6,a7,r1⟩:=G 1 y rfl;clear h1 h2 HK G;refine eK ?_;refine Aq (λU=>Ext w2 U) 15 (.pure 0 (.pure 1 (.pure 2 (.pure 3 (.pure 4 (.pure 5 (.pure 6 (.pure 7 (.pure 8 (.pure 9 (.fork 10 (.pure 11 (.pure 12 (.pure 13 (.pure 14 .tail)))) .none))))))))))) mixed AT (Ae (Aa Ag)) ?_;intro aw ah _;have Y:(λU=>Ext w2 U) aw:=ah;simp only at Y;have ab:=Z;have M:=r0;have ai:=r1;have X:=X.ext ah;refine ⟨Y,?_⟩;refine eT ?_;refine Tq rfl (Dr M) (eT ?_);refine Tq rfl (Dr ai) (tC rfl rfl (ST _ _ _ _) ?_);rintro _ a8 ⟨⟨⟩,rfl⟩;refine ⟨Y,?_⟩;refine Tq rfl Mv (Tq rfl Px (Tq rfl Px (Tq rfl Pa (At rfl (kT ?_)))));refine ⟨?_,X⟩;rw [AB Ab,AB Ab,AB Ab];rfl
def YA (k n:Int) (s:lB) (a:oA) (m c:Nat) (v:Int) (q:Bool) (w:wD) :
 Calls prog 233 #[.agg #[.int .u8 k,.int .i64 n,str s,.slice a m c,.int .i64 v,.bool q]] w λe w'=>e = .returned (.agg #[.int .u8 k,.int .i64 n,str s,.slice a m c])/\Ext w w':=by
 have X:=iK w;refine Ad func233 ntmps233 rfl rfl (cS (eB [_,_,_,_,_,_] ?_));intro b1 w2 O U p6 z7;have X:=X.ext U;refine eA [_,_,_,_] ?_;intro b8 w9 h G V Y;revert O X;refine eE G ?_;intro O X;refine eK ?_;refine eS [_,_,_,_] h ?_;intro Z M N aa;have X:=X.fr N Ab;refine kX M ?_;all_goals exact ⟨rfl,X⟩
def YB (kids:List (Int×Bool)) (hl:kids.length<=1000000) (a:oA) (c:Nat) (w:wD) (O:KidsAt w a kids) :
 Calls prog 232 #[.slice a kids.length c,.func (.func 233) #[] #[]] w (EachR (Hi 4) 29 (kids.map λ_=>()) w):=by
 have X:=iK w;refine Ad func232 ntmps232 rfl rfl (cS (C1 Pa (cN (C1 Pa (cT (Aj (cS (C1 Mv (C1 Pz (C1 Mv (cT ?_)))))))))));refine As ?_;refine AG (ι:=Nat×oA×Nat) (λx=>[(1,.func (.func 233) #[] #[]),(5,.slice x.2.1 (gT x.1 ()).length x.2.2),(8,.slice a kids.length c),(9,.int .i64 kids.length),(10,.int .i64 x.1)])
  (λx w'=>OwnQ (Hi 4) w' (λ_=>False) w.heap.size 29 (.slice x.2.1 (gT x.1 ()).length x.2.2) (gT x.1 ())/\x.1<=kids.length/\Ext w w')
  (λx=>kids.length-x.1) (0,none,0) sB ⟨OwnQ.nil,gC _,X⟩ ?_
 clear X;rintro ⟨j,ra,rc⟩ w1 ⟨G,hj,X⟩;simp only at G hj X;have ab:∀g,(gN ra (gT j ()).length rc).ownBlock=some g->w.heap.size<=g/\g<w1.heap.size:=λg h=>⟨G.ge h,G.lt h⟩
 have au:=X.size;by_cases U:j<kids.length
 . rcases O.ext X with O|⟨b,o,rfl,hb,V⟩
   . subst O;simp at U
   obtain ⟨k',n',s',c',m',d',r0⟩:=V j kids[j] (gm U);have av:(gT j ()).length<=1000000:=by simp;omega
   have N:gT j ()++[()]=gT (j+1) ():=by rw [List.replicate_succ']
   clear V O;generalize kids[j]=x at *;refine eK ?_;refine xA [_,_,_,_,_,_] ?_;intro aw ax ac;refine eI [_,_,_,_,_,_] ac ?_;intro ay az ad a0 a1;revert G X;refine eE ad ?_;intro G X;refine eK ?_;refine Ax (A9 (fi:=[]) (ca:=[]) AT rfl rfl (YA _ _ _ _ _ _ _ _ _) (λ_ _ h=>⟨_,h.1⟩)) rfl ?_ aFh;rintro _ af ⟨⟨⟩,ae⟩;revert G X;refine eY ae ?_;intro ag G X;refine Ax (xS [_,_,_,_]) rfl ?_ aFh;rintro _ ah ⟨ai,rfl,M,aj⟩;have ak:=M.blk;have Y:=M.ext;have al:=M.pos;have am:=M.size;revert G X;refine eE Y ?_;intro G X;refine Da (R:=λ_=>False) (sh:=Hi 4) (z:=()) Ac Cs rfl rfl rfl rfl AT rfl rfl rfl Af (λ_ h=>by exact h) (i7 Af) ⟨rfl,rfl⟩ Ab Ab rfl ?_;rintro an Z ao ap aq ar aa;clear G;have X:=iY X aa (λk O=>by have:=ab _ O;omega);refine C1 Pa (Ak (Ah (Ai (Al (C1 V7 (C1 Mv (Ak ?_)))))));rw [N];exact Aw (j+1,some ⟨_,0,none⟩,_) sB ⟨by simp only;rw [<-N];assumption,by simp only;omega,X⟩ (by simp only;omega)
 . obtain rfl:j=kids.length:=by omega
   have e:kids.map (λ_=>())=gT kids.length ():=by rw [List.map_const']
   rw [e];refine kR ?_;exact ⟨_,_,rfl,G,X⟩
def KJ (v:Int):Prop:= -9223372036854775808<=v/\v<=9223372036854775807
def Os (v:Int):KJ (Lp v):=by
 unfold KJ Lp;rw [iG];simp [IntKind.signed,IntKind.bits];split<;>omega
def Tg (b:Bool):KJ (Vw b):=by cases b<;>simp [Vw,KJ]
def Uy (k x:Int):KJ (Er k x).1:=by
 unfold Er;split
 . exact Os _
 split
 . exact Tg _
 . simp [KJ]
def YC (o:BinOp) (x y:Int):KJ (N7 o x y):=by
 unfold N7;split<;>exact Os _
def Wl {x:Int} (h:KJ x):KJ (x.tmod n):=by
 have M:=Int.natAbs_tmod x n;have N:=Nat.mod_le x.natAbs n.natAbs;unfold KJ at h ⊢;by_cases G:0<=x
 . have:=Int.tmod_nonneg n G;omega
 . have O:(-x).tmod n = - x.tmod n:=Int.neg_tmod ..;have U:=Int.tmod_nonneg n (show 0 <= -x by omega);omega
def YD {c:Prop} [Decidable c] {a b:Int×Int} (h:KJ a.1) (G:KJ b.1):KJ (if c then a else b).1:=by split<;>assumption
def Uz (k:Int) {x:Int} (h:KJ x):KJ (Ep k x n).1:=by
 unfold Ep T0
 repeat' (refine YD ?_ ?_)
 all_goals first
  | exact Os _
  | exact Tg _
  | exact YC _ _ _
  | exact Wl h
  | (constructor<;>decide)
def RU {k:Int} {kids:List (Int×Bool)} (h:KJ n) (G:∀x∈kids,KJ x.1):KJ (F0 k n kids).1:=by
 have M:KJ (kids.getD 0 (0,false)).1:=by
  cases kids with
  | nil=>simp [KJ]
  | cons x r=>exact G x AN
 unfold F0
 repeat' split
 all_goals first
  | exact h
  | exact Uy _ _
  | exact Uz _ M
  | simp [KJ]
def Wm {x:Int×Bool} (h:KJ x.1):KJ (Tf x).1:=by
 unfold Tf;split
 . exact h
 . simp [KJ]
mutual
def PY:∀t:Nd,t.wf->KJ t.cval.1
 | .mk k n s l,h=>by
  simp only [Nd.wf] at h;rw [Nd.cval];exact Wm (RU ⟨h.2.2.1,h.2.2.2.1⟩ (Th l h.2.2.2.2.2.2))
def Th:∀l:List Nd,CJ l -> ∀x∈GQ l,KJ x.1
 | [],_,x,hx=>by simp [GQ] at hx
 | t::r,h,x,hx=>by
  simp only [CJ] at h;simp only [GQ,ik] at hx;rcases hx with rfl|hx
  . exact PY t h.1
  . exact Th r h.2 x hx
end
def JY {k:Int} (h:(Nd.mk k n s l).isExpr=true):1<=k/\(∀x∈l,x.isExpr=true)/\(k=6\/k=7->l.length=1)/\(8<=k->l.length=2):=by
 rw [Nd.isExpr.eq_def] at h;simp only at h;split at h
 . rename_i G;simp only [gu,List.isEmpty_iff] at h;rw [h.2];exact ⟨Ab,AN,Ab,Ab⟩
 split at h
 . simp only [gu,List.isEmpty_iff] at h;rw [h.2];exact ⟨Ab,AN,Ab,Ab⟩
 split at h
 . match l,h with
   | [x],h=>
    simp only [gu] at h;exact ⟨Ab,by simpa using h.2,Ab,Ab⟩
   | [],h=>simp at h
   | _::_::_,h=>simp at h
 split at h
 . match l,h with
   | [x],h=>
    simp only [gu] at h;exact ⟨Ab,by simpa using h.2,λ_=>rfl,Ab⟩
   | [],h=>simp at h
   | _::_::_,h=>simp at h
 split at h
 . match l,h with
   | [x,y],h=>
    simp only [gu] at h;exact ⟨Ab,by simpa using h.2,Ab,λ_=>rfl⟩
   | [],h=>simp at h
   | [_],h=>simp at h
   | _::_::_::_,h=>simp at h
 . simp at h
def aJ (N:Nat):∀(t:Nd),t.size<N->t.size<=1000000->t.wf->t.isExpr=true -> ∀(S:nP) (a:oA) (c:Nat) (w:wD),t.sits S w a->Calls prog 218 #[t.val a c] w (FoldR t w):=by
 induction N with
 | zero=>intro t h;omega
 | succ N ih=>
  rintro ⟨k,n,s,l⟩ hN hM hf hx S a c w hs;have ap:=Cm l;simp only [iX] at hN hM;have hR:=PY _ hf;obtain ⟨e1,e2,e3,e4⟩:=JY hx;simp only [Nd.wf] at hf;have HC:=gp (λx O=>ih x (by have:=Cx O;omega) (by have:=Cx O;omega) (BK hf.2.2.2.2.2.2 x O) (e2 x O));clear ih hf hx;have Z:(l.map Nd.cval).length=l.length:=by simp
  have aa:(Nd.mk k n s l).cval=Tf (F0 k n (l.map Nd.cval)):=by rw [Nd.cval,KI]
  have X:=iK w;refine Ad func218 ntmps218 rfl rfl (cS (eB [_,_,_,_] ?_));intro b1 w2 U x5 p6 z7;revert hs X;refine eE x5 ?_;intro hs X;refine eA [_,_,_,_,_,_] ?_;intro b8 w9 G aj ax ay;revert U hs X;refine eE aj ?_;intro U hs X;refine kQ (Yy l Ab _ _ _ _ (Es Af) HC.out) ?_;rintro _ ak ⟨ab,ac,⟨⟩,ad,al⟩;revert G U X;refine eE al ?_;intro G U X;refine eK ?_;have M:=ad.kidsAt;have HV:=gp (Yz k n s l a c (l.map Nd.cval) ab ac ak Ab M (λh=>by rw [Z];exact e3 h) (λh=>by rw [Z];exact e4 h) e1);have HE:=gp (YB (l.map Nd.cval) Ab ab ac);have ae:=aa;rw [aa] at hR;clear e1 e2 e3 e4 HC hs Z ad aa;generalize l.map Nd.cval=kids at *;generalize F0 k n kids=cv at *;obtain ⟨v,q⟩:=cv;dsimp only at HV;cases q
  . refine kC (HV.out) ?_;rintro _ az ⟨⟨⟩,am⟩;revert G U X M;refine eE am ?_;intro G U X M;refine kQ (HE.out _ Af) ?_;rintro _ a0 ⟨a1,a2,⟨⟩,a3,an⟩;revert G U X;refine eE an ?_;intro G U X;refine C1 Pf (eV [_] [_,_,_,_] U ?_);intro aq ar V _;revert G X;refine eF V ?_;intro G X;clear M V;refine eK ?_;refine C1 (xB [_,_,_,_,_,_]) (eS [_,_,_,_,_,_] G ?_);intro au af ag _;have X:=X.fr ag Ab;refine kX af ?_;exact ⟨_,_,_,_,_,_,by rw [ae];rfl,X⟩
  . refine kC (HV.out) ?_;rintro _ a4 ⟨⟨⟩,ao⟩;revert G X;refine eE ao ?_;intro G X;refine kQ (Ux _ _ hR.1) ?_;rintro _ av ⟨a5,a6,a7,a8,a9,ba,⟨⟩,ah⟩;revert G X;refine eE ah ?_;intro G X;refine C1 Mv (C1 (xB [_,_,_,_,_,_]) (eS [_,_,_,_,_,_] G ?_));intro aw ai Y _;have X:=X.fr Y Ab;clear M Y;refine kX ai ?_;exact ⟨_,_,_,_,_,_,by rw [ae];rfl,X⟩
def Nd.const (t:Nd):Int×Bool:=if t.isExpr=true then t.cval else (0,false)
def YE (t:Nd) (hM:t.size<=1000000) (hf:t.wf) (S:nP) (a:oA) (c:Nat) (w:wD) (N:t.sits S w a):Calls prog 204 #[t.val a c] w λe w'=>e = .returned (.tuple #[.int .i64 t.const.1,.bool t.const.2])/\Ext w w':=by
 have h:=Fm S t hf;unfold DX at h;have X:=iK w;by_cases O:t.isExpr=true
 . have HF:=gp (aJ (t.size+1) t Ab hM hf O);have Y:t.const=t.cval:=by rw [Nd.const,AQ O]
   rw [Y];rw [O] at h;have Z:=gp h;clear h;refine Ad func204 ntmps204 rfl rfl (cS (eB [_,_,_,_] ?_));intro b1 w2 h4 x5 _ _;revert N X;refine eE x5 ?_;intro N X;refine kC (Z.out _ _ _ Af) ?_;rintro _ w9 ⟨⟨⟩,x8⟩;revert h4 N X;refine eE x8 ?_;intro h4 N X;refine kQ (HF.out _ _ _ _ Af) ?_;rintro _ ah ⟨ai,aj,ak,al,am,an,⟨⟩,aa⟩;have X:=X.ext aa;refine xA [_,_,_,_,_,_] ?_;intro ao ap ab;refine eI [_,_,_,_,_,_] ab ?_;intro U ac ad _ _;have X:=X.ext ad;refine eK ?_;refine Aq (λwz=>Ext U wz) 5 (.pure 0 (.pure 1 (.pure 2 (.pure 3 (.pure 4 .tail))))) mixed AT (Aa Ag) ?_;intro ae V _;have M:(λwz=>Ext U wz) ae:=V;simp only at M;have G:=ac;have X:=X.ext V;refine ⟨M,?_⟩;refine Tq rfl Pf (Tq rfl (Db G) (Tq rfl Pf (Tq rfl (Db G) (Tq rfl Pa (At rfl (kT ?_))))));all_goals exact ⟨rfl,X⟩
 . have Y:t.const=(0,false):=by rw [Nd.const,AB O]
   rw [Y];rw [Bool.not_eq_true] at O;rw [O] at h;have Z:=gp h;clear h;refine Ad func204 ntmps204 rfl rfl (cS (eB [_,_,_,_] ?_));intro aq ar au af _ _;revert N X;refine eE af ?_;intro N X;refine kC (Z.out _ _ _ Af) ?_;rintro _ av ⟨⟨⟩,ag⟩;have X:=X.ext ag;refine kT ?_;exact ⟨rfl,X⟩
def IV (t:Nd) (G:t.size<=1000000) (M:t.wf) (S:nP) (a:oA) (c:Nat) (w:wD) (h:t.sits S w a):Calls prog 182 #[t.val a c] w λe w'=>e = .returned (.bool t.const.2)/\Ext w w':=by
 have X:=iK w;refine Ad func182 ntmps182 rfl rfl (cS (eB [_,_,_,_] ?_));intro U V Y N _ _;revert h X;refine eE N ?_;intro h X;refine kC (YE _ G M _ _ _ _ Af) ?_;rintro _ Z ⟨⟨⟩,O⟩;have X:=X.ext O;refine kR ?_;exact ⟨rfl,X⟩
def Nd.idx (t:Nd) (s:lB):Bool:=decide (t.kind=3)&&(match t.kids with
 | []=>false
 | x::_=>x.ment s)
def DJ (places:List Nd) (names:List lB):Option lB:=places.findSome? λt=>names.find? λs=>t.idx s
def EO (o:Option lB):lB×Int:=match o with
 | some s=>(s,8)
 | none=>([],0)
def Nd.okIdx (t:Nd):Prop:=t.kind=3->t.kids≠[]
def Nt (t:Nd) (U:t.size<=1000000) (hp:t.okIdx) (s:List UInt8) (S:Nat->Prop) (a:Option Addr) (c:Nat) (w:World) (N:t.sits S w a):Calls prog 177 #[t.val a c,str s] w λe w'=>e = .returned (.bool (t.idx s))/\Ext w w':=by
 obtain ⟨k,n,V,l⟩:=t;have X:=iK w
 by_cases h3:k=3
 . subst h3;have Y:l≠[]:=hp rfl
   match l,Y,N,U with
   | x::r,_,N,U=>
    have G:=Es N;obtain ⟨kb,ko,rfl,kS,h⟩:=BI G AN;obtain ⟨xa,xc,Z,sx⟩:=h 0 x rfl
    have aa:x.size<=1000000:=by simp only [iX,AU] at U;omega
    have O:(Nd.mk 3 n V (x::r)).idx s=x.ment s:=by unfold Nd.idx;simp [jj,jp]
    rw [O];clear h N G hp O
    show Calls prog 177 #[.agg #[.int .u8 3,.int .i64 n,str V,.slice (some ⟨kb,ko,none⟩) (r.length+1) c],str s] w _
    refine Ad func177 ntmps177 rfl rfl ?_
    refine cS (eB [_,_,_,_] ?_);intro b1 w2 h4 x5 _ _;revert X Z sx;refine eE x5 ?_;intro X Z sx;clear x5;refine C1 Pa (cN (C1 Pg (C1 (Pl h4) (C1 V1 (C1 Mv (G2 (C1 Pf (G2 (C1 (Pl h4) (G2 (C1 Pi (G2 (BO [_,_,_,_] Ac rfl rfl rfl Z rfl rfl rfl (G2 (C1 Mv (G2 (cC rfl (LP _ aa _ _ _ _ _ Af) ?_)))))))))))))))));rintro _ w9 ⟨⟨⟩,x8⟩;replace X:=X.ext x8;clear x8;refine C1 Vu (C1 Pa (cT (AM (AP rfl rfl ?_))))
    exact ⟨rfl,X⟩
 . have O:(Nd.mk k n V l).idx s=false:=by unfold Nd.idx;simp [jj,h3]
   rw [O];refine Ad func177 ntmps177 rfl rfl ?_
   refine cS (eB [_,_,_,_] ?_);intro ac ad ab M _ _;replace X:=X.ext M;clear M;refine C1 Pa (cN (C1 Pg (C1 (Pl ab) (C1 V1 (C1 Mv (O2 (O2 (O2 (O2 (O2 (O2 (C1 O1 (C1 Pa (cT (AM (AP rfl rfl ?_))))))))))))))))
   exact ⟨rfl,X⟩
def UA {f:α->Bool} {l:List α} (h:j<l.length) (M:(l.take j).find? f=none):(l.take (j+1)).find? f=if f l[j]=true then some l[j] else none:=by
 rw [gx h,List.find?_append,M];by_cases G:f l[j]=true
 . simp [G]
 . simp [G]
def UB {f:α->Bool} {l:List α} {x:α} (h:(l.take j).find? f=some x):l.find? f=some x:=by
 rw [<-List.take_append_drop j l,List.find?_append,h];rfl
def RV {β:Type} {f:α->Option β} {l:List α} (h:j<l.length) (G:(l.take j).findSome? f=none):(l.take (j+1)).findSome? f=f l[j]:=by
 rw [gx h,List.findSome?_append,G];simp
def RW {β:Type} {f:α->Option β} {l:List α} {x:β} (h:(l.take j).findSome? f=some x):l.findSome? f=some x:=by
 rw [<-List.take_append_drop j l,List.findSome?_append,h];rfl
def Ot (G:List Nd) (M:List lB) (hz:AU G<=1000000) (hp:∀t∈G,t.okIdx) (hn:M.length<=1000) (S:nP) (a:oA) (c Z:Nat) (no nc:Nat) (w:wD) (O:rowSits S w G a) (V:Row w ⟨Z,no,none⟩ (M.map str)) :
 Calls prog 179 #[.slice a G.length c,.slice (some ⟨Z,no,none⟩) M.length nc] w λe w'=>e = .returned (.tuple #[str (EO (DJ G M)).1,.int .i64 (EO (DJ G M)).2])/\Ext w w':=by
 have X:=iK w;have am:=Cm G;have HP:=gp hp;clear hp;have O:=B6 _ _ O;refine Ad func179 ntmps179 rfl rfl (cS (C1 Pa (C1 Pa (cT (Aj (cS (C1 Mv (C1 Pz (C1 Mv (cT ?_))))))))));refine As ?_;refine AG (ι:=Nat) (λi=>[(1,.slice (some ⟨Z,no,none⟩) M.length nc),(10,.slice a G.length c),(11,.int .i64 G.length),(12,.int .i64 i)])
  (λi w'=>i<=G.length/\rowSits (· < w.heap.size) w' G a/\Row w' ⟨Z,no,none⟩ (M.map str)/\Ext w w'/\(G.take i).findSome? (λt=>M.find? λs=>t.idx s)=none)
  (λi=>G.length-i) 0 sB ⟨gC _,O,V,X,rfl⟩ ?_
 clear O V X;rintro i w1 ⟨hi,O,V,X,N⟩;by_cases Y:i<G.length
 . obtain ⟨kb,ko,rfl,kS,aa⟩:=BI O (by intro e;subst e;simp at Y);obtain ⟨xa,xc,rx,sx⟩:=aa i G[i] (gm Y);have an:=Cx (gA Y);have ag:=HP.out _ (gA Y);have U:=RV Y N;have ac:∀s,M.find? (λs=>G[i].idx s)=some s->EO (DJ G M)=(s,8):=λs h=>by rw [DJ,RW (U.trans h)];rfl
   clear aa HP N;generalize G[i]=x at *;refine eK ?_;refine xA [_,_,_,_] ?_;intro ad ao ah;refine eI [_,_,_,_] ah ?_;intro ap ae ai _ _;revert V X O sx;refine eE ai ?_;intro V X O sx;refine cN (C1 Mv (C1 Pz (C1 Mv (cT ?_))));refine As ?_;refine AG (ι:=Nat) (λj=>[(1,.slice (some ⟨Z,no,none⟩) M.length nc),(10,.slice (some ⟨kb,ko,none⟩) G.length c),(11,.int .i64 G.length),(12,.int .i64 i),(7,.pointer (some ⟨ad,0,none⟩)),(16,.slice (some ⟨Z,no,none⟩) M.length nc),(17,.int .i64 M.length),(18,.int .i64 j)])
    (λj w'=>j<=M.length/\Blk w' ad (x.cells xa xc)/\x.sits (· < w.heap.size) w' xa/\rowSits (· < w.heap.size) w' G (some ⟨kb,ko,none⟩)/\Row w' ⟨Z,no,none⟩ (M.map str)/\Ext w w'/\(M.take j).find? (λs=>x.idx s)=none)
    (λj=>M.length-j) 0 sB ⟨gC _,ae,sx,O,V,X,rfl⟩ ?_
   clear ae sx O V X rx;rintro j w2 ⟨hj,hb,sx,O,V,X,N⟩;by_cases ab:j<M.length
   . have r1:Row w2 ⟨Z,no+j*1,none⟩ [str M[j]]:=by
      have:=V.sub j 1;rw [gW (by simpa using ab)] at this;simpa using this
     have af:=UA ab N;have aj:x.idx M[j]=true->EO (DJ G M)=(M[j],8):=λh=>ac _ (UB (af.trans (AQ h)))
     have HI:=gp (Nt x Ab ag M[j]);clear N ac U;generalize M[j]=y at *;generalize x.idx y=q at *
     focus
      refine kC (HI.out _ _ _ _ Af) ?_;rintro _ aq ⟨⟨⟩,ak⟩;revert hb sx O V X;refine eE ak ?_;intro hb sx O V X;refine cT (FF rfl (λal=>?_) (λal=>?_));refine kT ?_;rotate_left;refine Ao (Ah (Ai (Al (C1 V7 (C1 Mv (Ak ?_))))));rotate_left
     . exact ⟨by rw [aj Af],X⟩
     . exact Aw (j+1) sB ⟨Ab,hb,sx,O,V,X,af.trans (AB (by simp [*]))⟩ Ab
   . obtain rfl:j=M.length:=by omega
     rw [gF] at N;refine cS (C1 V3 (cT (Aj (C6 (BF (Av (Av (AO (Ah (Ai (Al (C1 V7 (C1 Mv (Ak ?_))))))))))))));exact Aw (i+1) sB ⟨Ab,O,V,X,U.trans N⟩ Ab
 . obtain rfl:i=G.length:=by omega
   rw [gF] at N;have he:EO (DJ G M)=([],0):=by rw [DJ,N];rfl
   rw [he];refine kT ?_;exact ⟨rfl,X⟩
def UC (t x:Nd) (a xa:oA) (c xc h:Nat) (w:wD) (G:Blk w h (x.cells xa xc)):Calls prog 181 #[t.val a c,.pointer (some ⟨h,0,none⟩)] w λe w'=>e = .returned (.bool (decide (t.name=x.name)))/\Ext w w':=by
 have X:=iK w;refine Ad func181 ntmps181 rfl rfl (cS (eB [_,_,_,_] ?_));intro N O U M _ _;revert G X;refine eE M ?_;intro G X;refine kR ?_;exact ⟨rfl,X⟩
def RX (s:lB) (l:List Nd):Int:=match l.findIdx? (λt=>decide (t.name=s)) with
 | some i=>(i:Int)
 | none=> -1
def Ou {f:α->Bool} {l:List α} (h:j<l.length) (M:(l.take j).findIdx? f=none):(l.take (j+1)).findIdx? f=if f l[j]=true then some j else none:=by
 rw [gx h,List.findIdx?_append,M];by_cases G:f l[j]=true
 . simp [G,List.findIdx?_cons];omega
 . simp [G,List.findIdx?_cons]
def Ov {f:α->Bool} {l:List α} {i:Nat} (h:(l.take j).findIdx? f=some i):l.findIdx? f=some i:=by
 rw [<-List.take_append_drop j l,List.findIdx?_append,h];rfl
def Wn (l:List Nd) (hl:l.length<=1000000) (x:Nd) (S:nP) (a xa:oA) (c xc V:Nat) (w:wD) (G:rowSits S w l a) (U:Blk w V (x.cells xa xc)) :
 Calls prog 203 #[.slice a l.length c,.func (.func 181) #[] #[.pointer (some ⟨V,0,none⟩)]] w λe w'=>e = .returned (.int .i64 (RX x.name l))/\Ext w w':=by
 have X:=iK w;have G:=B6 _ _ G;refine Ad func203 ntmps203 rfl rfl (cS (C1 Pa (cT (Aj (cS (C1 Mv (C1 Pz (C1 Mv (cT ?_)))))))));refine As ?_;refine AG (ι:=Nat) (λj=>[(0,.slice a l.length c),(1,.func (.func 181) #[] #[.pointer (some ⟨V,0,none⟩)]),(6,.slice a l.length c),(7,.int .i64 l.length),(8,.int .i64 j)])
  (λj w'=>j<=l.length/\rowSits (· < w.heap.size) w' l a/\Blk w' V (x.cells xa xc)/\Ext w w'/\(l.take j).findIdx? (λt=>decide (t.name=x.name))=none)
  (λj=>l.length-j) 0 sB ⟨gC _,G,U,X,rfl⟩ ?_
 clear G U X;rintro j w1 ⟨hj,G,U,X,M⟩;by_cases O:j<l.length
 . obtain ⟨kb,ko,rfl,kS,N⟩:=BI G (by intro e;subst e;simp at O);obtain ⟨ya,yc,ry,sy⟩:=N j l[j] (gm O);have Y:=Ou O M;have Z:l[j].name=x.name->RX x.name l=j:=λh=>by
    rw [AQ (by simpa using h)] at Y;rw [RX,Ov Y]
   clear N M;generalize l[j]=y at *
   focus
    refine eK ?_;refine Ax (A9 (fi:=[]) (ca:=[.pointer (some ⟨V,0,none⟩)]) AT rfl rfl (UC _ x _ xa _ xc _ _ Af) (λ_ _ h=>⟨_,h.1⟩)) rfl ?_ aFh;rintro _ ac ⟨⟨⟩,aa⟩;revert U X G;refine eE aa ?_;intro U X G;refine cT (Ay rfl (λab=>?_) (λab=>?_));refine kR ?_;rotate_left;refine Ao (Ah (Ai (Al (C1 V7 (C1 Mv (Ak ?_))))));rotate_left
   . exact ⟨by rw [Z Af],X⟩
   . exact Aw (j+1) sB ⟨Ab,G,U,X,Y.trans (AB (by simpa using Af))⟩ Ab
 . obtain rfl:j=l.length:=by omega
   rw [gF] at M;have he:RX x.name l = -1:=by rw [RX,M]
   rw [he];refine kR ?_;exact ⟨rfl,X⟩
def Wo (s:lB) (l:List Nd):decide (0<=RX s l)=l.any (λt=>decide (t.name=s)):=by
 unfold RX;cases h:l.findIdx? (λt=>decide (t.name=s)) with
 | none=>
  rw [List.findIdx?_eq_none_iff] at h;have:l.any (λt=>decide (t.name=s))=false:=by rw [List.any_eq_false];intro x G;simpa using h x G
  rw [this];rfl
 | some i=>
  have M:=List.findIdx?_eq_some_iff_getElem.1 h;obtain ⟨N,O,-⟩:=M;have:l.any (λt=>decide (t.name=s))=true:=List.any_eq_true.2 ⟨l[i],gA N,O⟩;rw [this];simp
def PZ (l:List Nd) (G:l.length<=1000000) (x:Nd) (S:nP) (a xa:oA) (c xc h:Nat) (w:wD) (N:rowSits S w l a) (O:Blk w h (x.cells xa xc)) :
 Calls prog 180 #[.slice a l.length c,.func (.func 181) #[] #[.pointer (some ⟨h,0,none⟩)]] w λe w'=>e = .returned (.bool (l.any λt=>decide (t.name=x.name)))/\Ext w w':=by
 have X:=iK w;rw [<-Wo];refine Ad func180 ntmps180 rfl rfl (kC (Wn l G x _ _ xa _ xc _ _ Af Af) ?_);rintro _ U ⟨⟨⟩,M⟩;have X:=X.ext M;refine kR ?_;exact ⟨rfl,X⟩
def P0:List Nd->List Nd->Option lB
 | _,[]=>none
 | acc,t::r=>if acc.any (λu=>decide (u.name=t.name))=true then some t.name else P0 (acc++[t]) r
def Hj:Nd->lB×Int
 | .mk k _ s l=>
  if k=56 then ((l.getD 0 BQ).name,9)
  else if 40<=k/\k<=42 then (if ((l.getD 0 BQ).idx (l.getD 0 BQ).name||(l.getD 1 BQ).ment (l.getD 0 BQ).name)=true then ((l.getD 0 BQ).name,8) else ([],0))
  else if k=43 then EO (DJ l [(l.getD 0 BQ).name,(l.getD 1 BQ).name])
  else if 44<=k/\k<=45 then EO (DJ l [(l.getD 0 BQ).name,s])
  else if 46<=k/\k<=49 then EO (DJ l [(l.getD 0 BQ).name])
  else if 50<=k/\k<=51 then EO (P0 [] l)
  else if k=52 then (if ((l.getD 3 BQ).const.2 && !(l.getD 0 BQ).const.2)=true then ([],10) else ([],0))
  else if k=53 then (if (l.getD 0 BQ).const.2=true then ([],10) else ([],0))
  else ([],0)
def E5 (k n:Int) (s:lB) (l:List Nd):Hj (.mk k n s l)=if k=56 then ((l.getD 0 BQ).name,9)
 else if 40<=k/\k<=42 then (if ((l.getD 0 BQ).idx (l.getD 0 BQ).name||(l.getD 1 BQ).ment (l.getD 0 BQ).name)=true then ((l.getD 0 BQ).name,8) else ([],0))
 else if k=43 then EO (DJ l [(l.getD 0 BQ).name,(l.getD 1 BQ).name])
 else if 44<=k/\k<=45 then EO (DJ l [(l.getD 0 BQ).name,s])
 else if 46<=k/\k<=49 then EO (DJ l [(l.getD 0 BQ).name])
 else if 50<=k/\k<=51 then EO (P0 [] l)
 else if k=52 then (if ((l.getD 3 BQ).const.2 && !(l.getD 0 BQ).const.2)=true then ([],10) else ([],0))
 else if k=53 then (if (l.getD 0 BQ).const.2=true then ([],10) else ([],0))
 else ([],0):=rfl
def Jt {S:nP} {w:wD}:∀(l:List Nd) (i:Nat) (a:oA),rowSits S w l a->rowSits S w (l.take i) a
 | _,0,_,_=>by simp [rowSits]
 | [],_+1,_,_=>by simp [rowSits]
 | t::r,i+1,a,h=>by
  simp only [List.take_succ_cons,rowSits] at h ⊢;obtain ⟨b,o,G,c,rfl,M,N,O,U,V,X,Y⟩:=h;exact ⟨b,o,G,c,rfl,M,N,O,U,V,X,Jt r i _ Y⟩
def Nd.good (t:Nd):Prop:=t.isStmt=true\/t.isBlock=true\/t.isExpr=true
def UD {t:Nd} (h:t.good) (M:40<=t.kind) (G:t.kind<=56):t.isStmt=true:=by
 rcases h with h|h|h
 . exact h
 . obtain ⟨e,-⟩:=DT h;rw [e] at G;simp only [jj] at G;omega
 . have:=Ic h;omega
def FO {t:Nd} (h:t.isPlace=true):t.okIdx:=by
 intro G e;have M:=Bd h;obtain ⟨k,n,s,l⟩:=t;simp only [jj,jp] at G e;subst G e;rw [Nd.isExpr.eq_def] at M;simp at M
def P1 {k:Int} (h:(Nd.mk k n s l).isStmt=true) (G:k=56\/(40<=k/\k<=42)):∃x y,l=[x,y]/\x.isPlace=true/\y.isExpr=true:=by
 cases Ce h<;>first|omega|exact ⟨_,_,rfl,Af,Af⟩
def UE (h:(Nd.mk 43 n s l).isStmt=true):∃x y,l=[x,y]/\x.isPlace=true/\y.isPlace=true:=by
 cases Ce h<;>first|omega|exact ⟨_,_,rfl,Af,Af⟩
def Ti {k:Int} (h:(Nd.mk k n s l).isStmt=true) (G:44<=k/\k<=49):∃x,l=[x]/\x.isPlace=true:=by
 cases Ce h<;>first|omega|exact ⟨_,rfl,Af⟩
def KK {k:Int} (h:(Nd.mk k n s l).isStmt=true) (G:k=52\/k=53):∃x y z u,l=[x,y,z,u]/\x.isExpr=true/\u.isExpr=true:=by
 cases Ce h<;>first|omega|exact ⟨_,_,_,_,rfl,Af,Af⟩
set_option maxHeartbeats 8000000 in
def Wp (t:Nd) (hz:t.size<=1000000) (hf:t.wf) (hg:t.good) (S:Nat->Prop) (a:Option Addr) (c:Nat) (w:World) (O:t.sits S w a) (bk:t.kids.length<=c):Calls prog 149 #[t.val a c] w λe w'=>e = .returned (.tuple #[str (Hj t).1,.int .i64 (Hj t).2])/\Ext w w':=by
 have bl:=UD hg;clear hg;obtain ⟨k,n,s,l⟩:=t;replace O:=B6 _ _ (Es O);have cq:=Cm l;have HZ:=gp (λx (hx:x∈l)=>Cx hx)
 have dv:AU l<=1000000:=by simp only [iX] at hz;omega
 have HF:=gp (λx (hx:x∈l)=>BK (by simp only [Nd.wf] at hf;exact hf.2.2.2.2.2.2) x hx);have HT:=gp (λh1 h2=>bl h1 h2);simp only [jj] at HT;clear bl hf hz;simp only [jp] at bk;have X:=iK w
 show Calls prog 149 #[.agg #[.int .u8 k,.int .i64 n,str s,.slice a l.length c]] w _
 refine Ad func149 ntmps149 rfl rfl ?_
 focus
  refine cS (eB [_,_,_,_] ?_);intro b1 w2 N x5 p6 z7;revert O X;refine eE x5 ?_;intro O X;clear x5;refine C1 Pa (C1 Pa (cT (Aj (cS (C1 Pg (C1 (Pl N) (cT (As (cS (C1 V1 (C1 Pa (cT (Ay rfl (λc8=>?_) (λc8=>?_))))))))))))));rotate_left;refine Aj ?_;rotate_left
 . obtain ⟨x,y,rfl,hx,hy⟩:=P1 (HT.out Ab Ab) (gq Ab);obtain ⟨kb,ko,rfl,kS,G⟩:=BI O AN;obtain ⟨xa,xc,rx,sx⟩:=G 0 x rfl
   have he:Hj (.mk k n s [x,y])=(x.name,9):=by rw [E5,AQ Ab];rfl
   rw [he];clear O G he;replace N:Blk w2 b1 [.int .u8 k,.int .i64 n,str s,.slice (some ⟨kb,ko,none⟩) 2 c]:=N
   refine cS (C1 Pf (C1 (Pl N) (C1 Pi (C1 Pf (C1 (Pw rx) (C1 Pa (C1 Pa (cT (AM (AJ (Au (Ba rfl rfl rfl ?_))))))))))))
   exact ⟨rfl,X⟩
 refine Dv (ι:=Unit) (λ_=>[(1,.pointer (some ⟨b1,0,none⟩)),(10,.int .u8 k),(18,.bool (decide (40<=k/\k<=42)))]) (λ_ w'=>w'=w2) ?_ ?_
 . focus
    refine cS (C1 V1 (C1 Pa (cT (Ay rfl (λbz=>?_) (λbz=>?_)))));refine Ao ?_;rotate_left;refine cS (C1 V1 (C1 Pa (cT (Ay rfl (λb0=>?_) (λb0=>?_)))));refine Ao ?_;rotate_left;refine Al (C1 V1 (C1 Pa (Ak ?_)));rotate_left
   all_goals exact BS () (Am rfl (Am rfl (BL rfl (congrArg Value.bool (decide_eq_decide.2 Ab)) BB))) rfl
 rintro-u1 h;subst h
 focus
  refine Ay rfl (λb2=>?_) (λb2=>?_);rotate_left;rotate_left
 . obtain ⟨x,y,rfl,hx,hy⟩:=P1 (HT.out Ab Ab) (gt Ab);obtain ⟨kb,ko,rfl,kS,G⟩:=BI O AN;obtain ⟨xa,xc,rx,sx⟩:=G 0 x rfl;obtain ⟨ya,yc,ry,sy⟩:=G 1 y rfl
   have he:Hj (.mk k n s [x,y])=if (x.idx x.name||y.ment x.name)=true then (x.name,8) else ([],0):=by rw [E5,AB Ab,AQ Ab];rfl
   have HI:=gp (Nt x (by have:=HZ.out x AN;omega) (FO hx) x.name);have HM:=gp (LP y (by have:=HZ.out y AN;omega) x.name);rw [he];clear O G he
   generalize x.idx x.name=q at *
   generalize y.ment x.name=p at *
   replace N:Blk u1 b1 [.int .u8 k,.int .i64 n,str s,.slice (some ⟨kb,ko,none⟩) 2 c]:=N
   focus
    refine cS (C1 Pf (C1 (Pl N) (C1 Pi (C1 Pf (C1 (Pw rx) (C1 Pa (cN (C1 Pf (C1 (Pl N) (C1 Pi (BO [_,_,_,_] Ac rfl rfl rfl rx rfl rfl rfl (C1 Mv (cC rfl (HI.out _ _ _ _ Af) ?_)))))))))))));rintro _ dw ⟨⟨⟩,bm⟩;revert X ry sy N;refine eE bm ?_;intro X ry sy N;clear bm;refine C1 Mv (N3 rfl rfl rfl (λb3=>?_) (λb3=>?_));refine Be rfl rfl rfl (Nc Af) rfl (Be rfl rfl rfl (Nc Af) rfl (Be rfl rfl rfl (Nc Af) rfl (Be rfl rfl rfl (Nc Af) rfl (Be rfl rfl rfl (Nc Af) rfl (Be rfl rfl rfl (Nc Af) rfl (C1 (BM rfl rfl Af) (cT (BJ rfl (cS (C1 Mv (C1 Pa (C1 Pa (cT (AM (AJ (Au (Ba rfl rfl rfl ?_)))))))))))))))));rotate_left;refine A1 rfl rfl rfl (Nf Af) (C1 Pf (A1 rfl rfl rfl (Nf Af) (C1 (Pl N) (A1 rfl rfl rfl (Nf Af) (C1 Pi (A1 rfl rfl rfl (Nf Af) (C1 (VF ry) (A1 rfl rfl rfl (Nf Af) (C1 Mv (A1 rfl rfl rfl (Nf Af) (cC rfl (HM.out _ _ _ _ Af) ?_)))))))))));rintro _ dx ⟨⟨⟩,bn⟩;replace X:=X.ext bn;clear bn;refine C1 (Bm rfl rfl Af) ?_
    refine cT (FF rfl (λb4=>?_) (λb4=>?_));refine cS (C1 Mv (C1 Pa (C1 Pa (cT (AM (AJ (Au (Ba rfl rfl rfl ?_))))))));rotate_left;refine Ao (Ah (Ai (cS (C1 Pa (C1 Pa (cT (AM (Ba rfl rfl rfl ?_))))))));rotate_left
   all_goals exact ⟨by simp [*],X⟩
 focus
  refine cS (C1 V1 (C1 Pa (cT (Ay rfl (λb5=>?_) (λb5=>?_)))));rotate_left;refine Aj ?_;rotate_left
 . have hk:k=43:=by assumption
   subst hk;obtain ⟨x,y,rfl,hx,hy⟩:=UE (HT.out Ab Ab);obtain ⟨kb,ko,rfl,kS,G⟩:=BI O AN;obtain ⟨xa,xc,rx,sx⟩:=G 0 x rfl;obtain ⟨ya,yc,ry,sy⟩:=G 1 y rfl
   have he:Hj (.mk 43 n s [x,y])=EO (DJ [x,y] [x.name,y.name]):=by rw [E5,AB Ab,AB Ab,AQ Ab];rfl
   have HA:=gp (Ot [x,y] [x.name,y.name] Ab (λt ht=>by simp at ht;rcases ht with rfl|rfl<;>exact FO Af) AN);rw [he];clear G he;replace N:Blk u1 b1 [.int .u8 43,.int .i64 n,str s,.slice (some ⟨kb,ko,none⟩) 2 c]:=N
   focus
    refine Aj (Aq (λwz=>Ext u1 wz) 11 (.pure 0 (.pure 1 (.pure 2 (.pure 3 (.pure 4 (.pure 5 (.pure 6 (.pure 7 (.fork 8 (.fork 9 (.fork 10 .tail .none) .none) (.fork 9 (.fork 8 (.fork 10 .tail .none) .none) .none)))))))))) mixed AT (Aa (Ae (Aa Ag))) ?_);intro b6 av _;have M:(λwz=>Ext u1 wz) b6:=av;simp only at M;have ab:=O;have V:=rx;have ac:=sx;have aj:=ry;have ax:=sy;have U:=N;have dy:=av.size;revert X O N;refine eE av ?_;intro X O N;clear av;refine ⟨M,?_⟩;refine Tq rfl Pf (Tq rfl (Db U) (Tq rfl Pi (Tq rfl (CK [_,_,_,_] Ac rfl rfl rfl (λwz hz=>(iN V hz)) rfl rfl) (Tq rfl Pf (Tq rfl (Db U) (Tq rfl Pi (Tq rfl (BE Ac rfl rfl rfl (λwz hz=>(iN aj hz)) rfl) (AE rfl (Bb Cs rfl) rfl ?_ aFh ?krf5))))))));rintro _ dz ⟨d0,rfl,ak⟩;have al:=ak.blk;dsimp only at al;have ay:=ak.ext;have cr:=ak.pos;have ct:=ak.size;clear ak;revert M X O N;refine eE ay ?_;intro M X O N;clear ay;refine ⟨M,?_⟩;refine AE rfl (Bb Cs rfl) rfl ?_ aFh AD;rintro _ cu ⟨cv,rfl,ad⟩;have ae:=ad.blk;dsimp only at ae;have az:=ad.ext;have cw:=ad.pos;have cx:=ad.size;clear ad;revert al M X O N;refine eE az ?_;intro al M X O N;clear az;refine ⟨M,?_⟩
    refine De [_,_,_,_] [_,_,_,_] rfl Ac rfl rfl rfl rfl rfl rfl al rfl rfl ?_ AD;intro cy ah;have am:=ah.blk;have a0:=ah.fr;have cz:=ah.size;clear ah al;revert ae M X O N;refine eF a0 ?_;intro ae M X O N;clear a0;refine ⟨M,?_⟩;clear ab V ac aj ax U M;refine At rfl (eS [_,_,_,_] ae ?_);intro c0 bo a1 c1;clear ae;revert am X O N;refine eF a1 ?_;intro am X O N;clear a1;refine cN (C1 Pf (C1 (Pl N) (C1 Pf (C1 (Pl am) (C1 Pf (C1 (Pl bo) (Ax (C2 [_,_] Ac Cs rfl rfl rfl rfl rfl rfl rfl rfl rfl) rfl ?_ aFh)))))));rintro _ c2 ⟨c3,rfl,an,bp⟩;clear bp;have c4:=an.blk;have a2:=an.ext;clear an;revert X O;refine eE a2 ?_;intro X O;clear a2;refine cC rfl (HA.out _ _ _ _ _ _ _ Af (i7 Af)) ?_;rintro _ c5 ⟨⟨⟩,a3⟩;replace X:=X.ext a3;clear a3;refine C1 Px (C1 Px (C1 Pa (C1 Pa (cT (AM (AJ (Au (Ba rfl rfl rfl ?_))))))));rotate_left;refine AE rfl (Bb Cs rfl) rfl ?_ aFh AD;rintro _ c6 ⟨c7,rfl,af⟩;have aa:=af.blk;dsimp only at aa;have a4:=af.ext;have c9:=af.pos;have da:=af.size;clear af;revert M X O N;refine eE a4 ?_;intro M X O N;clear a4;refine ⟨M,?_⟩;refine AE rfl (Bb Cs rfl) rfl ?_ aFh AD
    rintro _ db ⟨dc,rfl,ag⟩;have ao:=ag.blk;dsimp only at ao;have a5:=ag.ext;have dd:=ag.pos;have de:=ag.size;clear ag;revert aa M X O N;refine eE a5 ?_;intro aa M X O N;clear a5;refine ⟨M,?_⟩;refine De [_,_,_,_] [_,_,_,_] rfl Ac rfl rfl rfl rfl rfl rfl ao rfl rfl ?_ AD;intro df ai;have ap:=ai.blk;have a6:=ai.fr;have dg:=ai.size;clear ai ao;revert aa M X O N;refine eF a6 ?_;intro aa M X O N;clear a6;refine ⟨M,?_⟩;clear ab V ac aj ax U M;refine At rfl (eS [_,_,_,_] aa ?_);intro dh bq a7 di;clear aa;revert ap X O N;refine eF a7 ?_;intro ap X O N;clear a7;refine cN (C1 Pf (C1 (Pl N) (C1 Pf (C1 (Pl ap) (C1 Pf (C1 (Pl bq) (Ax (C2 [_,_] Ac Cs rfl rfl rfl rfl rfl rfl rfl rfl rfl) rfl ?_ aFh)))))));rintro _ dk ⟨dl,rfl,aq,br⟩;clear br;have dm:=aq.blk;have a8:=aq.ext;clear aq;revert X O;refine eE a8 ?_;intro X O;clear a8;refine cC rfl (HA.out _ _ _ _ _ _ _ Af (i7 Af)) ?_;rintro _ dn ⟨⟨⟩,a9⟩;replace X:=X.ext a9;clear a9;refine C1 Px (C1 Px (C1 Pa (C1 Pa (cT (AM (AJ (Au (Ba rfl rfl rfl ?_))))))));rotate_left
   all_goals exact ⟨rfl,X⟩
 refine Dv (ι:=Unit) (λ_=>[(1,.pointer (some ⟨b1,0,none⟩)),(10,.int .u8 k),(62,.bool (decide (44<=k/\k<=45)))]) (λ_ w'=>w'=u1) ?_ ?_
 . focus
    refine cS (C1 V1 (C1 Pa (cT (Ay rfl (λb7=>?_) (λb7=>?_)))));refine Ao ?_;rotate_left;refine Al (C1 V1 (C1 Pa (Ak ?_)));rotate_left
   all_goals exact BS () (Am rfl (Am rfl (BL rfl (congrArg Value.bool (decide_eq_decide.2 Ab)) BB))) rfl
 rintro-u2 h;subst h
 focus
  refine Ay rfl (λb8=>?_) (λb8=>?_);rotate_left;refine Aj ?_;rotate_left
 . obtain ⟨x,rfl,hx⟩:=Ti (HT.out Ab Ab) Ab;obtain ⟨kb,ko,rfl,kS,G⟩:=BI O AN;obtain ⟨xa,xc,rx,sx⟩:=G 0 x rfl
   have he:Hj (.mk k n s [x])=EO (DJ [x] [x.name,s]):=by rw [E5,AB Ab,AB Ab,AB Ab,AQ Ab];rfl
   have HA:=gp (Ot [x] [x.name,s] Ab (λt ht=>by simp at ht;subst ht;exact FO hx) AN);rw [he];clear G he;replace N:Blk u2 b1 [.int .u8 k,.int .i64 n,str s,.slice (some ⟨kb,ko,none⟩) 1 c]:=N
   refine Aj (Aq (λwz=>Ext u2 wz) 13 (.pure 0 (.pure 1 (.pure 2 (.pure 3 (.pure 4 (.pure 5 (.pure 6 (.pure 7 (.pure 8 (.fork 9 (.fork 10 (.pure 11 (.pure 12 .tail)) .none) .none)))))))))) mixed AT (Aa (Ae (Aa Ag))) ?_);intro b9 bg _;have Y:(λwz=>Ext u2 wz) b9:=bg;simp only at Y;have ab:=O;have V:=rx;have ac:=sx;have U:=N;revert X O;refine eE bg ?_;intro X O;clear bg;refine ⟨Y,?_⟩;refine Tq rfl Pf (Tq rfl (Db U) (Tq rfl Pf (Tq rfl (Db U) (Tq rfl Pi (Tq rfl Pf (Tq rfl (Dr V) (Tq rfl Pf (Tq rfl (Db U) (AE rfl (C2 [_,_] Ac Cs rfl rfl rfl rfl rfl rfl rfl rfl rfl) rfl ?_ aFh AD)))))))));rintro _ d1 ⟨d2,rfl,bh,ca⟩;clear ca;have dp:=bh.blk;have ba:=bh.ext;clear bh;revert Y X O;refine eE ba ?_;intro Y X O;clear ba;refine ⟨Y,?_⟩;refine AE rfl (AR AT rfl (HA.out _ _ _ _ _ _ _ Af (i7 Af)) (λ_ _ h=>⟨_,h.1⟩)) rfl ?_ aFh AD;rintro _ dq ⟨⟨⟩,bb⟩;revert Y X;refine eE bb ?_;intro Y X;clear bb;refine ⟨Y,?_⟩;refine Tq rfl Px (Tq rfl Px ?_);clear ab V ac U Y;refine At rfl (C1 Pa (C1 Pa (cT (AM (AJ (Au (Ba rfl rfl rfl ?_)))))))
   all_goals exact ⟨rfl,X⟩
 refine Dv (ι:=Unit) (λ_=>[(1,.pointer (some ⟨b1,0,none⟩)),(10,.int .u8 k),(78,.bool (decide (46<=k/\k<=49)))]) (λ_ w'=>w'=u2) ?_ ?_
 . focus
    refine cS (C1 V1 (C1 Pa (cT (Ay rfl (λcb=>?_) (λcb=>?_)))));refine Ao ?_;rotate_left;refine cS (C1 V1 (C1 Pa (cT (Ay rfl (λcc=>?_) (λcc=>?_)))));refine Ao ?_;rotate_left;refine cS (C1 V1 (C1 Pa (cT (Ay rfl (λcd=>?_) (λcd=>?_)))));refine Ao ?_;rotate_left;refine Al (C1 V1 (C1 Pa (Ak ?_)));rotate_left
   all_goals exact BS () (Am rfl (Am rfl (BL rfl (congrArg Value.bool (decide_eq_decide.2 Ab)) BB))) rfl
 rintro-u3 h;subst h
 focus
  refine Ay rfl (λce=>?_) (λce=>?_);rotate_left;refine Aj ?_;rotate_left
 . obtain ⟨x,rfl,hx⟩:=Ti (HT.out Ab Ab) Ab;obtain ⟨kb,ko,rfl,kS,G⟩:=BI O AN;obtain ⟨xa,xc,rx,sx⟩:=G 0 x rfl
   have he:Hj (.mk k n s [x])=EO (DJ [x] [x.name]):=by rw [E5,AB Ab,AB Ab,AB Ab,AB Ab,AQ Ab];rfl
   have HA:=gp (Ot [x] [x.name] Ab (λt ht=>by simp at ht;subst ht;exact FO hx) AN);rw [he];clear G he;replace N:Blk u3 b1 [.int .u8 k,.int .i64 n,str s,.slice (some ⟨kb,ko,none⟩) 1 c]:=N
   refine Aj (Aq (λwz=>Ext u3 wz) 11 (.pure 0 (.pure 1 (.pure 2 (.pure 3 (.pure 4 (.pure 5 (.pure 6 (.fork 7 (.fork 8 (.pure 9 (.pure 10 .tail)) .none) .none)))))))) mixed AT (Aa (Ae (Aa Ag))) ?_);intro cf bi _;have Z:(λwz=>Ext u3 wz) cf:=bi;simp only at Z;have ab:=O;have V:=rx;have ac:=sx;have U:=N;revert X O;refine eE bi ?_;intro X O;clear bi;refine ⟨Z,?_⟩;refine Tq rfl Pf (Tq rfl (Db U) (Tq rfl Pf (Tq rfl (Db U) (Tq rfl Pi (Tq rfl Pf (Tq rfl (Dr V) (AE rfl (C2 [_] Ac Cs rfl rfl rfl rfl rfl rfl rfl rfl rfl) rfl ?_ aFh AD)))))));rintro _ d3 ⟨d4,rfl,bj,cg⟩;clear cg;have dr:=bj.blk;have bc:=bj.ext;clear bj;revert Z X O;refine eE bc ?_;intro Z X O;clear bc;refine ⟨Z,?_⟩;refine AE rfl (AR AT rfl (HA.out _ _ _ _ _ _ _ Af (i7 Af)) (λ_ _ h=>⟨_,h.1⟩)) rfl ?_ aFh AD;rintro _ ds ⟨⟨⟩,bd⟩;revert Z X;refine eE bd ?_;intro Z X;clear bd;refine ⟨Z,?_⟩;refine Tq rfl Px (Tq rfl Px ?_);clear ab V ac U Z;refine At rfl (C1 Pa (C1 Pa (cT (AM (AJ (Au (Ba rfl rfl rfl ?_)))))))
   all_goals exact ⟨rfl,X⟩
 refine Dv (ι:=Unit) (λ_=>[(1,.pointer (some ⟨b1,0,none⟩)),(10,.int .u8 k),(94,.bool (decide (50<=k/\k<=51)))]) (λ_ w'=>w'=u3) ?_ ?_
 . focus
    refine cS (C1 V1 (C1 Pa (cT (Ay rfl (λch=>?_) (λch=>?_)))));refine Ao ?_;rotate_left;refine Al (C1 V1 (C1 Pa (Ak ?_)));rotate_left
   all_goals exact BS () (Am rfl (Am rfl (BL rfl (congrArg Value.bool (decide_eq_decide.2 Ab)) BB))) rfl
 rintro-u4 h;subst h
 focus
  refine Ay rfl (λci=>?_) (λci=>?_);rotate_left;rotate_left
 . have he:Hj (.mk k n s l)=EO (P0 [] l):=by rw [E5,AB Ab,AB Ab,AB Ab,AB Ab,AB Ab,AQ Ab]
   rw [he];clear he
   refine cS (C1 Pf (C1 (Pl N) (C1 Pz (C1 Mv (cT ?_)))))
   refine As ?_;refine AG (ι:=Nat) (λi=>[(1,.pointer (some ⟨b1,0,none⟩)),(98,.slice a l.length c),(99,.int .i64 l.length),(100,.int .i64 i)])
    (λi w'=>i<=l.length/\Blk w' b1 [.int .u8 k,.int .i64 n,str s,.slice a l.length c]/\rowSits (· < w.heap.size) w' l a/\Ext w w'/\P0 [] l=P0 (l.take i) (l.drop i))
    (λi=>l.length-i) 0 sB ⟨gC _,N,O,X,AN⟩ ?_
   clear N O X z7;rintro i v1 ⟨hi,N,O,X,hd⟩;have d5:=N.lt
   by_cases aw:i<l.length
   . obtain ⟨kb,ko,rfl,kS,G⟩:=BI O (by intro e;subst e;simp at aw);obtain ⟨xa,xc,rx,sx⟩:=G i l[i] (gm aw);rw [gW aw,P0] at hd;have cj:l.take i++[l[i]]=l.take (i+1):=(gx aw).symm
     have ck:(l.take i).length=i:=by simp;omega
     have hm:(i:Int)=(i:Int):=rfl;have ar:=Jt l i _ O;have HC:=gp (PZ (l.take i) Ab l[i]);rw [ck] at HC;clear G;rw [cj] at hd
     generalize l[i]=x at *
     generalize (l.take i).any (λt=>decide (t.name=x.name))=q at *
     focus
      refine cS (C1 V3 (cT (Aj (O8 (Ao (Ai (Aj (As (cS (C1 Mv (C1 Pi (C1 (VF rx) (eA [_,_,_,_] ?_)))))))))))));intro d6 d7 bs bt d8 d9;revert X N O ar;refine eE bt ?_;intro X N O ar;clear bt;refine C1 Pa (eS [_,_,_,_] bs ?_);intro ea au be dt;clear bs;revert X N O ar;refine eF be ?_;intro X N O ar;clear be;refine cN (C1 Pf (C1 (Pl N) (C1 Mv (C1 (Dn Ac rfl rfl rfl rfl hm Ab) (C1 (BW rfl) (cC rfl (HC.out _ _ _ _ _ _ _ ar Af) ?_))))));rintro _ du ⟨⟨⟩,bf⟩;revert au X N O;refine eE bf ?_;intro au X N O;clear bf;refine cT (FF rfl (λbu=>?_) (λbu=>?_));refine cS (C1 Pf (C1 (Pl au) (C1 Pa (C1 Pa (cT (AM (AJ (Au (Au (AJ (AJ (Au (Ba rfl rfl rfl ?_)))))))))))));rotate_left;refine Ao (Ah (Ai (Al (C1 V7 (C1 Mv (Ak ?_))))));rotate_left
     . rw [AQ Af] at hd
       exact ⟨by rw [hd];rfl,X⟩
     . rw [AB (by simp [*])] at hd
       exact Aw (i+1) sB ⟨Ab,N,O,X,hd⟩ Ab
   . obtain rfl:i=l.length:=by omega
     rw [List.drop_length,P0] at hd;rw [hd]
     refine cS (C1 V3 (cT (Aj (C6 (BF (Av (Av (AO (Ah (Ai (cS (C1 Pa (C1 Pa (cT (AM (Ba rfl rfl rfl ?_))))))))))))))))
     exact ⟨rfl,X⟩
 focus
  refine cS (C1 V1 (C1 Pa (cT (Ay rfl (λcl=>?_) (λcl=>?_)))));rotate_left;rotate_left
 . obtain ⟨x,y,z,u,rfl,hx,hu⟩:=KK (HT.out Ab Ab) Ab;obtain ⟨kb,ko,rfl,kS,G⟩:=BI O AN;obtain ⟨xa,xc,rx,sx⟩:=G 0 x rfl;obtain ⟨ua,uc,ru,su⟩:=G 3 u rfl
   have he:Hj (.mk k n s [x,y,z,u])=if (u.const.2 && !x.const.2)=true then ([],10) else ([],0):=by rw [E5,AB Ab,AB Ab,AB Ab,AB Ab,AB Ab,AB Ab,AQ Ab];rfl
   have HX:=gp (IV x (by have:=HZ.out x AN;omega) (HF.out x AN));have HU:=gp (IV u (by have:=HZ.out u AN;omega) (HF.out u AN));rw [he];clear O G he
   generalize x.const.2=q at *
   generalize u.const.2=p at *
   replace N:Blk u4 b1 [.int .u8 k,.int .i64 n,str s,.slice (some ⟨kb,ko,none⟩) 4 c]:=N
   focus
    refine cS (C1 Pf (C1 (Pl N) (C1 Pi (C1 (VF ru) (cC rfl (HU.out _ _ _ _ su) ?_)))));rintro _ eb ⟨⟨⟩,bv⟩;revert X rx sx N;refine eE bv ?_;intro X rx sx N;clear bv;refine C1 Mv (N3 rfl rfl rfl (λcm=>?_) (λcm=>?_));refine A1 rfl rfl rfl (G9 Af) (C1 Pf (A1 rfl rfl rfl (G9 Af) (C1 (Pl N) (A1 rfl rfl rfl (G9 Af) (C1 Pi (A1 rfl rfl rfl (G9 Af) (BO [_,_,_,_] Ac rfl rfl rfl rx rfl rfl rfl (A1 rfl rfl rfl (G9 Af) (cC rfl (HX.out _ _ _ _ sx) ?_)))))))));rintro _ ec ⟨⟨⟩,bw⟩;replace X:=X.ext bw;clear bw;refine A1 rfl rfl rfl (G9 Af) (C1 Pt (C1 (BM rfl rfl Af) (cT (I9 rfl (λcn=>?_) (λcn=>?_)))));refine cS (C1 Pa (C1 Pa (cT (AM (AJ (Au (Ba rfl rfl rfl ?_)))))));rotate_left;refine Ao (Ah (Ai (cS (C1 Pa (C1 Pa (cT (AM (Ba rfl rfl rfl ?_))))))));rotate_left;refine Be rfl rfl rfl (Ha Af) rfl (Be rfl rfl rfl (Ha Af) rfl (Be rfl rfl rfl (Ha Af) rfl (Be rfl rfl rfl (Ha Af) rfl (Be rfl rfl rfl (Ha Af) rfl (Be rfl rfl rfl (Ha Af) rfl ?_)))))
    refine C1 (Bm rfl rfl Af) (cT (AY rfl (Ao (Ah (Ai (cS (C1 Pa (C1 Pa (cT (AM (Ba rfl rfl rfl ?_)))))))))));rotate_left
   all_goals exact ⟨by simp [*],X⟩
 focus
  refine cS (C1 V1 (C1 Pa (cT (Ay rfl (λco=>?_) (λco=>?_)))));rotate_left;refine Ao (Ah (Ai (cS (C1 Pa (C1 Pa (cT (AM (Ba rfl rfl rfl ?_))))))));rotate_left
 . obtain ⟨x,y,z,u,rfl,hx,hu⟩:=KK (HT.out Ab Ab) Ab;obtain ⟨kb,ko,rfl,kS,G⟩:=BI O AN;obtain ⟨xa,xc,rx,sx⟩:=G 0 x rfl
   have he:Hj (.mk k n s [x,y,z,u])=if x.const.2=true then ([],10) else ([],0):=by rw [E5,AB Ab,AB Ab,AB Ab,AB Ab,AB Ab,AB Ab,AB Ab,AQ Ab];rfl
   have HX:=gp (IV x (by have:=HZ.out x AN;omega) (HF.out x AN));rw [he];clear O G he
   generalize x.const.2=q at *
   replace N:Blk u4 b1 [.int .u8 k,.int .i64 n,str s,.slice (some ⟨kb,ko,none⟩) 4 c]:=N
   focus
    refine cS (C1 Pf (C1 (Pl N) (C1 Pi (BO [_,_,_,_] Ac rfl rfl rfl rx rfl rfl rfl (cC rfl (HX.out _ _ _ _ sx) ?_)))));rintro _ ed ⟨⟨⟩,bx⟩;replace X:=X.ext bx;clear bx;refine cT (FF rfl (λcp=>?_) (λcp=>?_));refine cS (C1 Pa (C1 Pa (cT (AM (AJ (Au (Ba rfl rfl rfl ?_)))))));rotate_left;refine Ao (Ah (Ai (cS (C1 Pa (C1 Pa (cT (AM (Ba rfl rfl rfl ?_))))))));rotate_left
   all_goals exact ⟨by simp [*],X⟩
 . have he:Hj (.mk k n s l)=([],0):=by rw [E5,AB Ab,AB Ab,AB Ab,AB Ab,AB Ab,AB Ab,AB Ab,AB Ab]
   rw [he]
   exact ⟨rfl,X⟩
def rejShape:Shape Int where
 sz:=4
 rep _ _ x cs:= ∃(p:Int) (pa:oA) (pn pc:Nat) (s:lB),cs=[.int .i64 p,.slice pa pn pc,.int .i64 x,str s]
 len h:=by obtain ⟨_,_,_,_,_,rfl⟩:=h;rfl
 one h:=by obtain ⟨_,_,_,_,_,rfl⟩:=h;rfl
 mono h _ _:=h
 lt h:=h
def Cc (l:List Nd):List Int:=(l.map λm=>(Hj m).2).filter (λe=>decide (e≠0))
def P2 (l:List Nd) (x:Nd):Cc (l++[x])=if (Hj x).2=0 then Cc l else Cc l++[(Hj x).2]:=by
 unfold Cc;rw [List.map_append,List.filter_append];by_cases h:(Hj x).2=0
 . rw [AQ h];simp [h]
 . rw [AB h];simp [h]
def GR (l:List Nd):(Cc l).length<=l.length:=by
 unfold Cc;exact Nat.le_trans (List.length_filter_le _ _) AN
mutual
def Hk:∀t:Nd,t.walk.length=t.size
 | .mk k n s l=>by simp only [Nd.walk,iX,gD,KL l];omega
def KL:∀l:List Nd,(BX l).length=AU l
 | []=>rfl
 | t::r=>by simp only [BX,AU,gO,Hk t,KL r]
end
def ChkR (xs:List Int) (w:wD):Ending->wD->Prop:=λe w'=> ∃a c,e = .returned (.slice a xs.length c)/\OwnQ rejShape w' (λ_=>False) w.heap.size 140 (.slice a xs.length c) xs/\Ext w w'/\(xs=[]->a=none/\c=0)
def ChkR.ret {xs:List Int} {e:Ending} {w':wD} (h:ChkR xs w e w'):∃v,e = .returned v:=by
 obtain ⟨_,_,h,-⟩:=h;exact ⟨_,h⟩
def Tj (p:Int) (t:Nd) (hz:t.size<=1000000) (O:∀x∈t.walk,x.good/\x.wf/\x.size<=1000000) (S:nP) (a:oA) (c:Nat) (w:wD) (hs:t.sits S w a) :
 Calls prog 110 #[.int .i64 p,t.val a c] w (ChkR (Cc t.walk) w):=by
 have HG:=gp O;clear O;have X:=iK w;refine Gk (args:=[_,_]) func110 ntmps110 rfl rfl (cS (eB [_] ?_));intro b1 w2 h4 x5 p6 z7;revert hs X;refine eE x5 ?_;intro hs X;refine eB [_,_,_,_] ?_;intro b8 w9 al aw be bf;revert h4 hs X;refine eE aw ?_;intro h4 hs X;refine eK ?_;refine eA [_] ?_;intro am ax af ay bg z22;revert al h4 hs X;refine eE ay ?_;intro al h4 hs X;refine kQ (Wh _ hz _ _ _ _ Af) ?_;rintro _ ab ⟨a6,⟨⟩,ao,az⟩;revert af h4 X;refine eY az ?_;intro bh af h4 X;refine cT ?_;refine As ?_;refine PX rfl rfl rfl AT ao (λ_ _ _ _ h=>ZT h) (λk G=>G.2)
  (λA xs W=> ∃Y Z,Blk W am [.slice Y (Cc xs).length Z]/\OwnQ rejShape W (λ_=>False) w.heap.size 140 (.slice Y (Cc xs).length Z) (Cc xs)/\(∀g,(gN Y (Cc xs).length Z).ownBlock=some g -> ¬A g/\ab.heap.size<=g)/\Blk W b1 [.int .i64 p]/\Ext w W/\(Cc xs=[]->Y=none/\Z=0))
  (λ_ _ _=>False) ?_ (λ_ _ _ _ _ h=>h.elim) ⟨none,0,af,OwnQ.nil,λg O=>by simp [iI] at O,h4,X,λ_=>⟨rfl,rfl⟩⟩ ?_ ?_ (λ_ _ _ _ _ h=>h.elim)
 . rintro A A' xs W W' ⟨Y,Z,h1,h2,h3,h4,x,h5⟩ hf hA-a0;exact ⟨Y,Z,h1.fr hf (λe=>by have:=hA _ e;omega),h2.fr hf (λk G=>⟨id,λe=>(h3 k e).1 G⟩),λg O=>⟨λe=>(h3 g O).1 (a0 g (h2.lt O) e),(h3 g O).2⟩,h4.fr hf (λe=>by have:=hA _ e;omega),iY x hf (λk G=>by have:=hA _ G;omega),h5⟩
 . rintro r A pre x u v W hA ap ⟨Y,Z,V,j2,j3,U,N,j5⟩ ⟨pa,pn,pc,xa,xc,e,sx,a7⟩ ac;simp only [ig,and_true] at e;obtain ⟨rfl,rfl⟩:=e;clear ao af al h4 hs X;have bi:=hA _ ap;obtain ⟨g1,g2,g3⟩:=HG.out x (by obtain ⟨q,hq⟩:=ac;rw [<-hq];simp);have a8:(Cc pre).length<=1000000:=by
    have h1:=GR pre;have h2:=ac.length_le;rw [Hk] at h2;simp only [gO,gD,hH] at h2;omega
   have M:∀g,(gN Y (Cc pre).length Z).ownBlock=some g -> ¬A g/\ab.heap.size<=g/\g<W.heap.size:=λg O=>⟨(j3 g O).1,(j3 g O).2,j2.lt O⟩
   have an:=P2 pre x;have HR:=gp (Wp x g3 g2 g1);have X1:=iK W;clear j3 ac g1 g2 g3;refine C9 (Bp rfl (Bt Gl) (C1 Pa (Ak (Cl (Bp rfl Gl (En [_,_,_,_] Cs rfl rfl ?_))))));intro bj bk a1;refine eI [_,_,_,_] a1 ?_;intro bl ag a2 bm bn;revert V j2 U N sx X1;refine eE a2 ?_;intro V j2 U N sx X1;refine Ak (Ij (Keeps.of_ext X1) λW2 f2=>?_)
   have aq:∀k,k=ab.heap.size+1 -> ¬False/\(gN Y (Cc pre).length Z).ownBlock≠some k:=λk e=>⟨id,λh=>(M k h).1 (e▸ap)⟩
   revert ag V;refine eF f2 ?_;intro ag V;replace j2:=j2.fr f2 aq;replace U:=U.fr f2 Ab;replace N:=iY N f2 (λk G=>by omega);replace sx:=sx.fr f2 (λb hb e=>by omega);have bo:=f2.size;have ar:∀k,A k->ab.heap.size<=k/\k<W2.heap.size:=λk G=>by have:=hA k G;omega
   have HA:=gp ar;clear X1 f2 hA aq ar;generalize Hj x=ev at *;obtain ⟨en,ec⟩:=ev;dsimp only at an HR;have HN:=gp an;have X3:=iP (λk=>k=am\/(gN Y (Cc pre).length Z).ownBlock=some k) W2;have hK:∀k,A k\/(ax.heap.size<=k/\k<ab.heap.size) -> ¬(k=am\/(gN Y (Cc pre).length Z).ownBlock=some k):=λk G h=>by
    rcases h with h|h
    . rcases G with G|G
      . have:=HA.out k G;omega
      . omega
    . rcases G with G|G
      . exact (M k h).1 G
      . have:=M k h;omega
   clear an;by_cases he:ec=0
   . have hN:=HN.out;rw [AQ he] at hN;subst he;refine Gj (C9 (Bp rfl (Bt (Bw BV)) (A3 [_,_,_,_] Ac rfl rfl rfl ag rfl rfl rfl (cC rfl (HR.out _ _ _ _ Af Ab) ?_))));rintro _ bp ⟨⟨⟩,a3⟩;revert V j2 U N X3;refine eE a3 ?_;intro V j2 U N X3;refine C1 Mv (C1 Px (C1 Px (C1 Pa (C1 Pa (Ak (Cl (C9 (Bp rfl (Bt (Bw BV)) (C1 Mv (C1 V2 (Ak (Cl (ZS rfl CH (FN (Ah ?_)))))))))))))));exact IT (Keeps.of_fr X3 hK) ⟨Y,Z,by rw [hN];exact V,by rw [hN];exact j2,by rw [hN];exact λg O=>⟨(M g O).1,(M g O).2.1⟩,U,N,by rw [hN];exact j5⟩
   . have hN:=HN.out;rw [AB he] at hN;refine Gj (C9 (Bp rfl (Bt (Bw BV)) (A3 [_,_,_,_] Ac rfl rfl rfl ag rfl rfl rfl (cC rfl (HR.out _ _ _ _ Af Ab) ?_))));rintro _ bq ⟨⟨⟩,a4⟩;revert V j2 U N X3;refine eY a4 ?_;intro br V j2 U N X3;refine C1 Mv (C1 Px (C1 Px (C1 Pa (C1 Pa (Ak (Cl (C9 (Bp rfl (Bt (Bw BV)) (C1 Mv (C1 V2 (Ak (Cl (Wj rfl Af (Bp rfl (Bw BV) (eK ?_)))))))))))))));refine C1 (DR [_,_,_,_] Ac Cs rfl rfl rfl rfl) (Ax (C2 [_,_,_,_] Ac Cs rfl rfl rfl rfl rfl rfl rfl rfl rfl) rfl ?_ aFh);rintro _ bs ⟨bt,rfl,ah,bu⟩;have bv:=ah.blk;have a5:=ah.ext;have a9:=ah.pos;have ba:=ah.size;revert V j2 U N X3;refine eE a5 ?_;intro V j2 U N X3;refine Da (R:=λ_=>False) (sh:=rejShape) (z:=ec) Ac Cs rfl rfl rfl rfl AT rfl rfl rfl Af (λ_ h=>by exact h) (i7 Af) ⟨_,_,_,_,_,rfl⟩ Ab Ab rfl ?_;rintro ad ae bb ai aj bc aa;replace V:=iO V aa (λh=>by have:=M _ h;omega);replace U:=iO U aa (λh=>by have:=M _ h;omega);replace N:=iY N aa (λk G=>by have:=M _ G;omega);clear sx;replace X3:=Fr.fr X3 aa (λk G=>gq (gt G));refine eS [_] V ?_;intro bd au ak _;replace ai:=OwnQ.fr ai ak (λk G=>⟨id,λe=>by (obtain rfl:=gB (show some ad=some k from e);rcases aj with h|h;have:=M _ h;omega;omega)⟩);revert U N X3;refine eF ak ?_;intro U N X3;refine Ak (Ah ?_)
     refine IT (Keeps.of_fr X3 hK) ⟨some ⟨ad,0,none⟩,ae,by rw [hN];exact au,by rw [hN];assumption,λg O=>?_,U,N,λe=>by rw [hN] at e;simp at e⟩;obtain rfl:=gB (show some ad=some g from O);rcases aj with h|h
     . exact ⟨(M _ h).1,(M _ h).2.1⟩
     . exact ⟨λhA=>by have:=HA.out _ hA;omega,Ab⟩
 . rintro A W hA ⟨Y,Z,V,j2,j3,U,N,j5⟩ hm G;refine Ik (Dw (Ig (Eu (Fs (Ap Ac rfl rfl rfl (λwz hz=>by rw [show wz=W from hz];exact V.cell rfl)) rfl (Fs (Gv rfl) rfl (GO (Dw (Jr (PV G rfl rfl (λw2 av=>?_))))))))));exact ⟨Y,Z,rfl,j2.fr av (λk e=>⟨id,λh=>(j3 k h).1 (e▸hm)⟩),iY N av (λk e=>by omega),j5⟩
def CU {P:Program} {n:Nat} {l:Sl} {tab:Tab} {sz:Nat} {fn:Func} {R:Ending->wD->Prop} {G b s:Nat} {V:Sk} {vs:lV} {v3:Value} (h:fn.results = #[.cell j G,.tmp s]) (T:TabOk P tab) (X:Az tab G=some (V,sz)) (Y:V.agg=true) (Z:look l j=some (.pointer (some ⟨b,0,none⟩))) (hb:Blk w b vs) (hl:vs.length=sz)
 (hz:look l s=some v3) (hR:R (.returned (.tuple #[.agg vs.toArray,v3])) w):QW n (bodyPost P fn R) .ret l w:=by
 unfold QW;intro a U;refine ⟨U.defers,.tuple #[.agg vs.toArray,v3],?_,hR⟩;have e:(loadVar G ⟨b,0,none⟩).run P w = .ok (.agg vs.toArray) w:=by
  simp only [gE,gP,gw,loadVar,Co (T _ _ _ X),Y,if_true,B3 (T _ _ _ X)];rw [<-hl,Cr hb.row]
 have M:=U.has j _ Z;have N:=U.has s _ hz;simp only [Array.getD_eq_getD_getElem?] at M N;simp [results,h,M,N,e,asAddr]
def Wq (q:Bool) (t:Nd) (h:t.size<=1000000) (G:t.isStmt=true\/t.isBlock=true) (S:nP) (a:oA) (c:Nat) (w:wD) (M:t.sits S w a):Calls prog 111 #[t.val a c,.bool q] w (CopyR (t.inv q) w):=Wc q (t.size+1) t S a c w Ab h G M
def Wr:VD:=⟨[],0,0⟩
def RY {l:List VD} (h:j<l.length) (s:lB):D8 (l.take (j+1)) s=if l[j].name=s then some l[j] else D8 (l.take j) s:=by
 unfold D8;rw [gx h,List.reverse_append,List.reverse_singleton,List.singleton_append,List.find?_cons];by_cases G:l[j].name=s
 . simp [G]
 . simp [G]
def VDs.get {l:List VD} (h:VDs S w l a) (G:l≠[]):∃b o,a=some ⟨b,o,none⟩/\S b /\ ∀i v,l[i]? = some v->Row w ⟨b,o+i*3,none⟩ v.cells:=by
 rcases h with h|⟨b,o,M,N,O⟩
 . exact absurd h G
 . exact ⟨b,o,M,N,λi v U=>O i v U⟩
def VDs.ltV {l:List VD} (h:VDs S w l a):VDs (· < w.heap.size) w l a:=h.lt2.wide λ_ h=>h.2
def Ow (l:List VD) (hl:l.length<=1000000) (s:lB) (S:nP) (a:oA) (c:Nat) (w:wD) (h:VDs S w l a) :
 Calls prog 141 #[.slice a l.length c,str s] w λe w'=>e = .returned (.tuple #[((D8 l s).getD Wr).val,.bool (D8 l s).isSome])/\Ext w w':=by
 have X:=iK w;have h:=h.ltV;refine Ad func141 ntmps141 rfl rfl (cS (eA [_,_,_] ?_));intro b1 w2 h5 x6 p7 z8;revert X h;refine eE x6 ?_;intro X h;refine eK ?_;refine C1 (AK rfl rfl (gz _ Ab)) (C1 Pa (cT ?_));refine As ?_;refine AG (ι:=Nat) (λj=>[(0,.slice a l.length c),(1,str s),(4,.pointer (some ⟨b1,0,none⟩)),(6,.int .i64 ((j:Int)-1))])
  (λj w'=>j<=l.length/\VDs (· < w.heap.size) w' l a/\Blk w' b1 [.string ⟨#[]⟩,.int .u8 0,.int .i64 0]/\Ext w w'/\D8 l s=D8 (l.take j) s)
  (λj=>j) l.length sB ⟨gI _,h,h5,X,by rw [gF]⟩ ?_
 clear h h5 X;rintro j w1 ⟨hj,h,O,X,M⟩;cases j with
 | zero=>
  have e0:D8 l s=none:=by rw [M];rfl
  rw [e0];refine eK ?_;refine C1 (xB [_,_,_]) (eS [_,_,_] O ?_);intro aa ab U _;clear O;have X:=X.fr U Ab;refine eK ?_;refine CU rfl Ac rfl rfl rfl Af rfl rfl ?_;exact ⟨rfl,X⟩
 | succ j=>
  have N:j<l.length:=by omega
  obtain ⟨kb,ko,rfl,kS,G⟩:=h.get (by intro e;subst e;simp at N);have r0:=G j l[j] (gm N);have hn:=RY N s;rw [hn] at M;clear G hn;generalize l[j]=v at *;have V:(((j+1:Nat):Int)-1)=(j:Int):=by omega
  obtain ⟨vn,vk,vl⟩:=v;replace r0:Row w1 ⟨kb,ko+j*3,none⟩ [str vn,.int .u8 vk,.int .i64 vl]:=r0;dsimp only at M;rw [V]
  focus
   refine eK ?_;refine Ay rfl (λY=>?_) (λY=>?_);refine eK ?_;refine eS [_,_,_] O ?_;intro ac ad Z _;clear O;have X:=X.fr Z Ab;refine eK ?_;rotate_left;refine eK ?_;refine C1 (AK rfl rfl (gz _ Ab)) (C1 Pa (Ak ?_));rotate_left
  . refine CU rfl Ac rfl rfl rfl Af rfl rfl ?_;rw [AQ Af] at M;rw [M];exact ⟨rfl,X⟩
  . rw [AB Af] at M;exact Aw j sB ⟨Ab,h,O,X,M⟩ Ab
section
variable {P:Program} {n:Nat} {l:Sl} {S:wD->Prop} {tab:Tab} {zt:Ei} {ty:TypeId} {w:wD}
def P3 {x y z:Operand} {t e sz len cap:Nat} {sE:Sk} {k N:IntKind} (T:TabOk P tab) (Y:Az tab t=some (.slice e,j)) (Z:Az tab e=some (sE,sz)) (hx:ev l x=some (.slice a len cap)) (hy:ev l y=some (.int k (len:Int))) (hz:ev l z=some (.int N (len:Int))) (hm:len<=cap) :
 Bh P n l S (.slice t x none (some y) (some z)) ty (.slice a len len):=by
 unfold Bh;intro aa w ab pos after g O _;have V:P.underlying t=some (.slice e):=(T _ _ _ Y).under;have h:P.elem t=e:=by simp [Program.elem,V]
 have G:P.underlying t=some (.slice (P.elem t)):=by rw [h];exact V
 obtain ⟨i,hi,hs⟩:=(T _ _ _ Z).info;have U:(Go.sizeOf e).run P w = .ok sz w:=by simp [Go.sizeOf,typeInfo,program,Sem.run,bind,Sem.bind,pure,hi,hs]
 have h1:(Instr.sliceAt t (.slice a len cap) none (some (.int k (len:Int))) (some (.int N (len:Int)))).run P w = .ok (.slice a len len) w:=by
  rw [run_sliceAt_slice w t _ _ _ _ G,run_slice_hm w t a len cap G k N len len Ab Ab Ab];rw [h,U];simp only [gw,sliced,Int.toNat_natCast,Nat.sub_zero,Nat.zero_mul];by_cases X:len=0
  . rw [AQ X]
  . rw [AB X];cases a<;>simp [iC]
 simp [execOp,O.ev hx,O.ev hy,O.ev hz,gE,h1,gw]
def CV {x y:Operand} {t e sz1 sz m cap:Nat} {sE:Sk} {zs:lV} {p:Addr} {cs us:lV} {R:nP} (T:TabOk P tab) (Z:Ch P zt) (ht:Az tab t=some (.slice e,sz1)) (hE:Az tab e=some (sE,sz)) (hz:Cz zt e=some zs) (hzl:zs.length=sz)
 (hby:Dk P e=true) (hsz:gM 0 sz=true) (hx:ev l x=some (.slice a m m)) (hy:ev l y=some (.slice (some p) 1 cap)) (hs:Rows R w cs a) (hcl:cs.length=m*sz) (hr:Row w p us) (hul:us.length=1*sz) (hu:us.all i6=true) (hm:m<=1000000000) :
 BD P n l (.call ⟨.builtin .append,#[x,y],#[t,t]⟩) ty w (FV λo w'=> ∃g cap',o = .slice (some ⟨g,0,none⟩) (m+1) cap'/\m+1<=cap'/\Row w' ⟨g,0,none⟩ (cs++us)/\w.heap.size<=g/\g<w'.heap.size/\Ext w w'):=by
 obtain ⟨i,v0,z1,z2,z3⟩:=EL Z hz;obtain ⟨i',hi',hs'⟩:=(T _ _ _ hE).info;rw [z1] at hi';obtain rfl:=gB hi';have hbb:i.bytes<=1000:=by
  unfold Dk at hby;rw [z1] at hby;exact gS hby
 have hzs:v0.cells.size=sz:=by rw [z3];simpa using hzl
 have hsz':0<sz:=gS hsz;have hbytes:(m+1)*i.bytes<=140737488355328:=by have:=Nat.mul_le_mul (show m+1<=1000000001 by omega) hbb;omega
 have hnews:∀j u,us[j]? = some u->w.cell? (p.add j)=some u:=λj u hj=>hr j u hj
 have hu':P.underlying t=some (.slice e):=(T _ _ _ ht).under;have c:m+1<=maxLen:=by unfold maxLen;omega
 have key:∃g cap' w',(Builtin.append_ #[t,t] ty #[.slice a m m,.slice (some p) 1 cap]).run P w = .ok (.slice (some ⟨g,0,none⟩) (m+1) cap') w'/\m+1<=cap'/\Row w' ⟨g,0,none⟩ (cs++us)/\w.heap.size<=g/\g<w'.heap.size/\Ext w w':=by
  have fin:∀(v':Value) (w':wD),w'.ownsRow w.heap.size e sz v' (m+1) (cs++us)->w.grownBy w' none -> ∃g cap',v' = .slice (some ⟨g,0,none⟩) (m+1) cap'/\m+1<=cap'/\Row w' ⟨g,0,none⟩ (cs++us)/\w.heap.size<=g/\g<w'.heap.size/\Ext w w':=λv' w' h1 h2=>by
   have ho:Own w' w.heap.size e sz v' (m+1) (cs++us):=h1;have hx:Ext w w':=⟨h2.os,h2.tape,h2.output,h2.size,λk hk=>h2.block k hk AN⟩
   rcases ho.row with ⟨-,h0,-⟩|⟨g,cap',rfl,hg,hob,hrr⟩
   . omega
   . exact ⟨g,cap',rfl,S8 ho,hrr,hg,(ho.blk hob).2,hx⟩
  cases a with
  | some b=>
   obtain ⟨v',w',hrun,h1,h2⟩:=run_append_arg_grows (P:=P) w t ty e i v0 sz i.bytes hu' z1 z2 hs' rfl hzs hsz' b m m cs hcl (λj u hj=>by
    rcases hs with rfl|⟨b',o,hb,-,hrow⟩
    . simp at hj
    . obtain rfl:=gB hb;exact hrow j u hj) p 1 cap us hul hnews Ab c hbytes
   obtain ⟨g,cap',rfl,k⟩:=fin v' w' h1 h2;exact ⟨g,cap',w',hrun,k⟩
  | none=>
   have d:cs=[]:=by
    rcases hs with rfl|⟨b',o,hb,-⟩
    . rfl
    . cases hb
   subst d;have f:m=0:=by
    simp only [hH] at hcl;rcases Nat.eq_zero_or_pos m with h|h
    . exact h
    . have:=Nat.mul_pos h hsz';omega
   subst f;have h1c:∀u∈us,u.oneCell'=true:=λu hm=>by rw [<-SO];exact List.all_eq_true.1 hu u hm
   obtain ⟨v',w',hrun,h1,h2,-⟩:=run_append_own (P:=P) w w.heap.size t ty e i v0 sz i.bytes hu' z1 z2 hs' rfl hzs hsz' (.slice none 0 0) 0 [] Own.nil p 1 cap us hul hnews h1c (by unfold maxLen;omega) (by simpa using hbytes) (gI _);obtain ⟨g,cap',rfl,k⟩:=fin v' w' (by simpa using h1) (by simpa [iI] using h2);exact ⟨g,cap',w',hrun,k⟩
 obtain ⟨g,cap',w',hrun,k⟩:=key;unfold BD;intro act dst pos after gd next Q ha hn _;have e1:(execOp act.eval ⟨dst,.call ⟨.builtin .append,#[x,y],#[t,t]⟩,ty,pos,after,gd⟩).run P w = .ok (.value (.slice (some ⟨g,0,none⟩) (m+1) cap')) w':=by
  simp only [execOp,resolve,invoke,builtin,gE,gP,Result.andThen_ok,List.map_toArray,im,List.map_nil,ha.ev hx,ha.ev hy,hrun]
 unfold iB;rw [e1];exact hn _ _ ⟨g,cap',rfl,k⟩
end
def JZ:(prog.fieldsOf 77).toList.map (λf=>(f.name == "_",f.type,f.offset))=[(false,9,0),(false,5,1),(false,3,2)]:=by kernel_rfl
def P4:prog.underlying 77=some (.struct (prog.fieldsOf 77)):=by kernel_rfl
def P5:prog.stoodInHeld 77=false:=by kernel_rfl
def P6:prog.eqGuardType prog.depth 77=false:=by kernel_rfl
def Iz {P:Program} {d:Nat} {xs:Array Value} {w:wD}:∀(G:List Field),(∀f∈G,∃v,(part f.type xs f.offset).run P w = .ok v w/\(iJ d f.type v v).run P w = .ok true w)->(Op.eqFields d xs xs G).run P w = .ok true w
 | [],_=>by simp [Op.eqFields]
 | f::G,h=>by
  obtain ⟨v,N,O⟩:=h f List.mem_cons_self;have M:=Iz (P:=P) (d:=d) (xs:=xs) (w:=w) G (λg U=>h g (List.mem_cons_of_mem _ U));unfold Op.eqFields;split
  . simp only [gE,N,O,Result.andThen_ok,Bool.not_true,iE,if_false,M]
  . exact M
def Ec {P:Program} {tab:Tab} {t sz h:Nat} {s:Sk} {cs:lV} {v:Value} (T:TabOk P tab) (G:Az tab t=some (s,sz)) (M:s.agg=false) (N:cs[h]? = some v) (w:wD):(part t cs.toArray h).run P w = .ok v w:=by
 simp [part,gE,Co (T _ _ _ G),M,gw,N]
def P7 (v:VD) (w:wD):(iJ 10000 77 v.val v.val).run prog w = .ok true w:=by
 rw [show (10000:Nat)=9999+1 from rfl,run_equalIn_agg w 9999 _ _ _ P4 P5];refine Iz _ (λf N=>?_);have M:(f.name == "_",f.type,f.offset)∈(prog.fieldsOf 77).toList.map (λf=>(f.name == "_",f.type,f.offset)):=List.mem_map.2 ⟨f,N,rfl⟩;rw [JZ] at M;simp only [ik,iH,or_false,Prod.mk.injEq] at M
 rcases M with ⟨-,h,G⟩|⟨-,h,G⟩|⟨-,h,G⟩
 . rw [h,G]
   refine ⟨str v.name,Ec (cs:=v.cells) Ac rfl rfl rfl w,?_⟩
   rw [run_equalIn_string w 9998 _ _ _ (show prog.underlying 9=some .string from (Ac 9 .str 1 rfl).under)];simp
 . rw [h,G]
   refine ⟨.int .u8 v.kind,Ec (cs:=v.cells) Ac rfl rfl rfl w,?_⟩
   rw [run_equalIn_int w 9998 _ _ .u8 _ _ (show prog.underlying 5=some (.int .u8) from (Ac 5 (.int .u8) 1 rfl).under)];simp
 . rw [h,G]
   refine ⟨.int .i64 v.len,Ec (cs:=v.cells) Ac rfl rfl rfl w,?_⟩
   rw [run_equalIn_int w 9998 _ _ .i64 _ _ (show prog.underlying 3=some (.int .i64) from (Ac 3 (.int .i64) 1 rfl).under)];simp
def UF {n:Nat} {l:Sl} {S:wD->Prop} {ty t':TypeId} {x y:Operand} {v:VD} (G:ev l x=some v.val) (M:ev l y=some v.val):Bh prog n l S (.binOp .neq 77 x y t') ty (.bool false):=by
 unfold Bh;intro a w N pos after g h _;have O:=run_eqGuard_agg (P:=prog) w .neq 77 x y v.cells.toArray v.cells.toArray P6;have U:(binOp .neq 77 v.val v.val).run prog w = .ok (.bool false) w:=by
  rw [run_neq_struct,P7];rfl
 simp only [execOp,h.ev G,h.ev M,gE,O,U,Result.andThen_ok,gP]
def PDs.ltA {l:List PD} (h:PDs S w l a):PDs (· < w.heap.size) w l a:=by
 rcases h with h|⟨b,o,N,h2,M⟩
 . exact gq h
 . cases l with
   | nil=>exact gq rfl
   | cons v r=>
    obtain ⟨_,_,_,_,G,-,-⟩:=M 0 v rfl;refine gt ⟨b,o,N,Cg (Row.at0 G rfl),λi x O=>?_⟩;obtain ⟨U,V,X,Y,G,Z,hs⟩:=M i x O;exact ⟨U,V,X,Y,G,Z.lt2.wide (λ_ h=>h.2),B5 _ _ hs⟩
structure PG.few (g:PG):Prop where
 nv:g.vars.length<=1000000
 np:g.procs.length<=1000000
 main:g.main.size<=1000000
 procs:∀p∈g.procs,p.params.length<=1000000/\p.body.size<=1000000
def Ox (l:List VD) (U:l.length<=1000000) (s:lB) (S:nP) (a:oA) (c:Nat) (w:wD) (hs:VDs S w l a) :
 Calls prog 105 #[.slice a l.length c,str s] w λe w'=>e = .returned (.int .i64 (EW l s))/\Ext w w':=by
 have X:=iK w;have G:=gp (Ow l U s);unfold EW;generalize D8 l s=o at *;cases o with
 | none=>
  dsimp only [Option.isSome,Option.getD] at G ⊢;refine Ad func105 ntmps105 rfl rfl (kC (G.out _ _ _ _ Af) ?_);rintro _ w2 ⟨⟨⟩,V⟩;have X:=X.ext V;refine eK ?_;refine xA [_,_,_] ?_;intro b4 w5 Y;refine eI [_,_,_] Y ?_;intro w7 _ Z _ _;have X:=X.ext Z;refine kR ?_;exact ⟨rfl,X⟩
 | some v=>
  obtain ⟨vn,vk,vl⟩:=v;dsimp only [Option.isSome,Option.getD] at G ⊢;refine Ad func105 ntmps105 rfl rfl (kC (G.out _ _ _ _ Af) ?_);rintro _ aa ⟨⟨⟩,M⟩;have X:=X.ext M;refine eK ?_;refine xA [_,_,_] ?_;intro ab ac h;refine Dq [_,_,_] Ac rfl rfl rfl rfl rfl rfl h rfl ?_;intro ad h;have N:=h.blk;dsimp only at N;have O:=h.ext;have X:=X.ext O;refine kR ?_;exact ⟨rfl,X⟩
def dD (l:List VD) (V:l.length<=1000000) (s:lB) (k:Int) (S:nP) (a:oA) (c:Nat) (w:wD) (hs:VDs S w l a) :
 Calls prog 172 #[.slice a l.length c,str s,.int .u8 k] w λe w'=>e = .returned (.int .i64 (FC l s k))/\Ext w w':=by
 have X:=iK w;have M:=gp (Ow l V s);unfold FC;generalize D8 l s=o at *;cases o with
 | none=>
  dsimp only [Option.isSome,Option.getD] at M;refine Ad func172 ntmps172 rfl rfl (kC (M.out _ _ _ _ Af) ?_);rintro _ w2 ⟨⟨⟩,Y⟩;have X:=X.ext Y;refine eK ?_;refine xA [_,_,_] ?_;intro b4 w5 Z;refine eI [_,_,_] Z ?_;intro w7 _ x9 _ _;have X:=X.ext x9;refine kR ?_;exact ⟨rfl,X⟩
 | some v=>
  obtain ⟨vn,vk,vl⟩:=v;dsimp only [Option.isSome,Option.getD] at M ⊢;refine Ad func172 ntmps172 rfl rfl ?_
  focus
   refine kC (M.out _ _ _ _ Af) ?_;rintro _ aa ⟨⟨⟩,N⟩;have X:=X.ext N;refine eK ?_;refine xA [_,_,_] ?_;intro ab ac h;refine Dq [_,_,_] Ac rfl rfl rfl rfl rfl rfl h rfl ?_;intro ad h;have O:=h.blk;dsimp only at O;have U:=h.ext;have X:=X.ext U;refine eK ?_;refine BN rfl (λG=>?_) (λG=>?_);refine kR ?_;rotate_left;refine kR ?_;rotate_left
  all_goals exact ⟨by simp [*],X⟩
def Gn (ps:List PD) (s:lB):Int:=match CA ps s with
 | some i=>(i:Int)
 | none=> -1
def PDs.get {l:List PD} (h:PDs S w l a) (G:l≠[]):∃b o,a=some ⟨b,o,none⟩/\S b /\ ∀i p,l[i]? = some p->cY S w b (o+i*6) p:=by
 rcases h with h|⟨b,o,M,N,O⟩
 . exact absurd h G
 . exact ⟨b,o,M,N,λi v U=>O i v U⟩
def YF (p:PD) (G M:oA) (N O bs:Nat) (s:lB) (w:wD) (h:Blk w bs [str s]):Calls prog 143 #[.agg (p.cells G N M O).toArray,.pointer (some ⟨bs,0,none⟩)] w λe w'=>e = .returned (.bool (decide (p.name=s)))/\Ext w w':=by
 have X:=iK w;refine Ad func143 ntmps143 rfl rfl (cS (eB [_,_,_,_,_,_] ?_));intro V Y Z U _ _;revert h X;refine eE U ?_;intro h X;refine kR ?_;exact ⟨rfl,X⟩
def F4 {f:α->Bool} {l:List α} (h:j<l.length) (M:(l.take j).findIdx? f=none):(l.take (j+1)).findIdx? f=if f l[j]=true then some j else none:=by
 rw [gx h,List.findIdx?_append,M];by_cases G:f l[j]=true
 . simp [G,List.findIdx?_cons];omega
 . simp [G,List.findIdx?_cons]
def F5 {f:α->Bool} {l:List α} {i:Nat} (h:(l.take j).findIdx? f=some i):l.findIdx? f=some i:=by
 rw [<-List.take_append_drop j l,List.findIdx?_append,h];rfl
def Ws (l:List PD) (hl:l.length<=1000000) (s:lB) (S:nP) (a:oA) (c bs:Nat) (w:wD) (G:PDs S w l a) (U:Blk w bs [str s]) :
 Calls prog 142 #[.slice a l.length c,.func (.func 143) #[] #[.pointer (some ⟨bs,0,none⟩)]] w λe w'=>e = .returned (.int .i64 (Gn l s))/\Ext w w':=by
 have X:=iK w;have G:=G.ltA;refine Ad func142 ntmps142 rfl rfl (cS (C1 Pa (cT (Aj (cS (C1 Mv (C1 Pz (C1 Mv (cT ?_)))))))));refine As ?_;refine AG (ι:=Nat) (λj=>[(0,.slice a l.length c),(1,.func (.func 143) #[] #[.pointer (some ⟨bs,0,none⟩)]),(6,.slice a l.length c),(7,.int .i64 l.length),(8,.int .i64 j)])
  (λj w'=>j<=l.length/\PDs (· < w.heap.size) w' l a/\Blk w' bs [str s]/\Ext w w'/\(l.take j).findIdx? (λp=>decide (p.name=s))=none)
  (λj=>l.length-j) 0 sB ⟨gC _,G,U,X,rfl⟩ ?_
 clear G U X;rintro j w1 ⟨hj,G,U,X,M⟩;by_cases O:j<l.length
 . obtain ⟨kb,ko,rfl,kS,N⟩:=G.get (by intro e;subst e;simp at O);obtain ⟨pa,pc,ba,bc,ry,-,-⟩:=N j l[j] (gm O);have V:=F4 O M;have Y:l[j].name=s->Gn l s=j:=λh=>by
    rw [AQ (by simpa using h)] at V;rw [Gn,CA,F5 V]
   clear N M;generalize l[j]=y at *
   focus
    refine eK ?_;refine Ax (A9 (fi:=[]) (ca:=[.pointer (some ⟨bs,0,none⟩)]) AT rfl rfl (YF y pa ba pc bc _ s _ Af) (λ_ _ h=>⟨_,h.1⟩)) rfl ?_ aFh;rintro _ ab ⟨⟨⟩,Z⟩;revert U X G;refine eE Z ?_;intro U X G;refine cT (Ay rfl (λaa=>?_) (λaa=>?_));refine kR ?_;rotate_left;refine Ao (Ah (Ai (Al (C1 V7 (C1 Mv (Ak ?_))))));rotate_left
   . exact ⟨by rw [Y Af],X⟩
   . exact Aw (j+1) sB ⟨Ab,G,U,X,V.trans (AB (by simpa using Af))⟩ Ab
 . obtain rfl:j=l.length:=by omega
   rw [gF] at M;have he:Gn l s = -1:=by rw [Gn,CA,M]
   rw [he];refine kR ?_;exact ⟨rfl,X⟩
def Oy (g:PG) (U:g.procs.length<=1000000) (s:lB) (S:nP) (V:oA) (vc:Nat) (N:oA) (Y:Nat) (Z:oA) (mc:Nat) (w:wD) (h:PDs S w g.procs N) :
 Calls prog 106 #[.agg (g.cells V vc N Y Z mc).toArray,str s] w λe w'=>e = .returned (.int .i64 (Gn g.procs s))/\Ext w w':=by
 have X:=iK w;have h:=h.ltA;refine Ad func106 ntmps106 rfl rfl (cS (eB [_,_,_,_,_,_] ?_));intro b1 w2 O x5 _ _;revert X h;refine eE x5 ?_;intro X h;refine eB [_] ?_;intro b8 w9 aa G _ _;revert O X h;refine eE G ?_;intro O X h;refine eK ?_;refine C1 (BW rfl) (cC rfl (Ws _ U s _ _ _ _ _ Af Af) ?_);rintro _ ab ⟨⟨⟩,M⟩;have X:=X.ext M;refine kR ?_;exact ⟨rfl,X⟩
def YG (a:oA) (n c:Nat) (w:wD) (h:n<=c) (G:n<=1000000):Calls prog 173 #[.slice a n c] w λe w'=>e = .returned (.slice a n n)/\w=w':=by
 refine Ad func173 ntmps173 rfl rfl (eK ?_);refine C1 (P3 Ac rfl rfl rfl rfl rfl h) (kR ?_);exact ⟨rfl,rfl⟩
def Lf (a:oA) (n c:Nat) (w:wD) (h:n<=c) (G:n<=1000000):Calls prog 174 #[.slice a n c] w λe w'=>e = .returned (.slice a n n)/\w=w':=by
 refine Ad func174 ntmps174 rfl rfl (eK ?_);refine C1 (P3 Ac rfl rfl rfl rfl rfl h) (kR ?_);exact ⟨rfl,rfl⟩
end Bk
