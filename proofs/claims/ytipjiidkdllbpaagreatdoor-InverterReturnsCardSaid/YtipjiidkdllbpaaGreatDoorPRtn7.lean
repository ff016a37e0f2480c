/- Texts that the proofs of InverterReturns need. No condition. (Part 7 of 8.) -/
import Derived.Test.YtipjiidkdllbpaaGreatDoorPRtn6
set_option linter.unusedSimpArgs false
set_option linter.unusedVariables false
set_option linter.defProp false
set_option maxRecDepth 100000
set_option maxHeartbeats 4000000
open Go.Proofs.Tryz
open List renaming getElem?_eq_getElem->bT,getD_eq_getElem?_getD->cB,length_cons->cF,getElem?_eq_none->cI,getElem?_append_left->cK,getElem_mem->cL,length_append->cP,getElem?_append_right->cW,take_length->dB,length_nil->dD,getElem?_cons_zero->dF,take_succ_eq_append_getElem->dG,drop_eq_getElem_cons->dH,replicate->dJ,mem_of_getElem?->dL,append_assoc->dP,mem_cons->dQ,getElem?_map->dZ,length_take->eH,not_mem_nil->eP
open Go.Lib renaming hid->bU
open Or renaming inl->bW,inr->bX
open Bool renaming and_eq_true->bZ,false_eq_true->dK
open Option.some renaming inj->cD,injEq->cE
open Go.Result renaming andThen->cG
open Nat renaming le_refl->cH,lt_or_ge->cO,zero_le->cQ,blt->cV,le_of_ble_eq_true->dE,eq_of_beq_eq_true->dO,le_trans->dV,ble->dW,beq->eC,zero_add->eJ
open Except renaming bind->cJ
open Go.Sem renaming run_bind->cU,run_pure->dC
open Go renaming Calls->cX
open Go.Value renaming slice->cY,int->dM,ownBlock->eR
open Go.Region renaming ready->cZ,binds->dT
open Go.IntWalk renaming i64_in->dA
open Go.Value.slice renaming injEq->dI
open Go.DataW renaming trod->dN
open Go.Builtin renaming zeroCells->dR
open List.cons renaming injEq->dU
open Array renaming getElem?_eq_none->dX,replicate->eO
open Go.Calls renaming mono->dY
open Go.Addr renaming add->eG
open Go.Oper renaming wp->eL
open Bk.Ext renaming refl->eU,alloc->fG,fr->gE
open Bk.Nd.sits renaming fr->eW,wide->eX
open Bk.Blk renaming fr->fB,cell->fD,ext->fH,row->fN
open Bk.Fr renaming refl->fC,fr->fJ
open Bk.Nd renaming size->fF,kind->fS,kids->gB
open Bk.Row renaming ext->fL
open Bk.rowSits renaming fr->fO
open Bk.VDs renaming fr->gC
namespace Bk
open Go Go.RowKit Go.Proofs
attribute [local irreducible] Go.Calls
def Gz (k n:Int) (kids:List (Int×Bool)):Int×Bool:=
 if kids.all (·.2)=true then
  if k=1 then (n,true) else if k=2\/k=3\/k=4\/k=5 then (0,false)
  else if k=6\/k=7 then ((E0 k (kids.getD 0 (0,false)).1).1,decide ((E0 k (kids.getD 0 (0,false)).1).2=0))
  else ((EZ k (kids.getD 0 (0,false)).1 (kids.getD 1 (0,false)).1).1,decide ((EZ k (kids.getD 0 (0,false)).1 (kids.getD 1 (0,false)).1).2=0))
 else (0,false)
def Tc (x:Int×Bool):Int×Bool:=if x.2=true then x else (0,false)
mutual
def Nd.cval:Nd->Int×Bool
 | .mk k n _ l=>Tc (Gz k n (Ho l))
def Ho:List Nd->List (Int×Bool)
 | []=>[]
 | t::r=>t.cval::Ho r
end
def K1 : ∀l:List Nd,Ho l=l.map Nd.cval
 | []=>rfl
 | t::r=>by rw [Ho,K1 r,List.map_cons]
def FoldR (t:Nd) (w:wD):Ending->wD->Prop:=fun e w'=> ∃(k n:Int) (s:lB) (a:oA) (m c:Nat),e = .returned (.agg #[.int .u8 k,.int .i64 n,str s,.slice a m c,.int .i64 t.cval.1,.bool t.cval.2])/\Ext w w'
def FoldR.ret {t:Nd} {w:wD} {e:Ending} {w':wD} (h:FoldR t w e w') : ∃v,e = .returned v:=by
 obtain ⟨_,_,_,_,_,_,h,-⟩:=h;exact ⟨_,h⟩
def EachR {α:Type} (sh:Shape α) (e:Nat) (xs:List α) (w:wD):Ending->wD->Prop:=fun r w'=> ∃a c,r = .returned (.slice a xs.length c)/\OwnQ sh w' (fun _=>False) w.heap.size e (.slice a xs.length c) xs/\Ext w w'
def EachR.ret {α:Type} {sh:Shape α} {e:Nat} {xs:List α} {w:wD} {r:Ending} {w':wD} (h:EachR sh e xs w r w') : ∃v,r = .returned v:=by
 obtain ⟨_,_,h,-⟩:=h;exact ⟨_,h⟩
def Yv (l:List Nd) (hl:l.length<=1000000) (S:nP) (a:oA) (c:Nat) (w:wD) (L:rowSits S w l a)
 (hC : ∀x∈l,∀(S:nP) (a:oA) (c:Nat) (w:wD),x.sits S w a->Calls prog 175 #[x.val a c] w (FoldR x w)) :
 Calls prog 183 #[.slice a l.length c,.func (.func 175) #[] #[]] w (EachR GP 205 (l.map Nd.cval) w):=by
 have HC:=bU hC;clear hC;have L:=BV _ _ L;have X:=eU w;refine Ac func183 ntmps183 rfl rfl ?_;refine cS (C1 Pa (cN (C1 Pa (cT (Ai (cS (C1 Mv (C1 Pz (C1 Mv (cT ?_))))))))));refine Av ?_;refine A1 (ι:=Nat×oA×Nat) (fun x=>[(1,.func (.func 175) #[] #[]),(5,.slice x.2.1 ((l.take x.1).map Nd.cval).length x.2.2),(8,.slice a l.length c),(9,.int .i64 l.length),(10,.int .i64 x.1)])
  (fun x w'=>OwnQ GP w' (fun _=>False) w.heap.size 205 (.slice x.2.1 ((l.take x.1).map Nd.cval).length x.2.2) ((l.take x.1).map Nd.cval)/\x.1<=l.length/\rowSits (· < w.heap.size) w' l a/\Ext w w')
  (fun x=>l.length-x.1) (0,none,0) sB ⟨OwnQ.nil,cQ _,L,X⟩ ?_
 clear L X;rintro ⟨j,ra,rc⟩ w1 ⟨F,hj,L,X⟩;simp only at F hj L X;have O : ∀g,(cY ra ((l.take j).map Nd.cval).length rc).ownBlock=some g->w.heap.size<=g/\g<w1.heap.size:=fun g h=>⟨F.ge h,F.lt h⟩
 have a0:=X.size;by_cases V:j<l.length
 . obtain ⟨kb,ko,rfl,kS,Y⟩:=BA L (by intro e;subst e;simp at V);obtain ⟨xa,xc,rx,Z⟩:=Y j l[j] (bT V);have HX:=bU (HC.out l[j] (cL V));have U:(l.take j).map Nd.cval++[l[j].cval]=(l.take (j+1)).map Nd.cval:=by rw [dG V,List.map_append];rfl
   have a1:((l.take j).map Nd.cval).length<=1000000:=by simp;omega
   clear Y HC;generalize l[j]=x at *;refine eK ?_;refine xA [_,_,_,_] ?_;intro a2 a3 ae;refine eI [_,_,_,_] ae ?_;intro a4 N af a5 a6;revert F X L rx Z;refine eE af ?_;intro F X L rx Z;refine eK ?_;refine AC (Bv (fi:=[]) (ca:=[]) A9 rfl rfl (HX.out _ _ _ _ Ae) (fun _ _ h=>h.ret)) rfl ?_ aFh;rintro _ ag ⟨a7,⟨ah,⟨ai,⟨aj,⟨ak,⟨al,⟨⟨⟩,ab⟩⟩⟩⟩⟩⟩⟩;revert N F X L rx Z;refine eY ab ?_;intro am N F X L rx Z;refine AC (xS [_,_,_,_,_,_]) rfl ?_ aFh;rintro _ an ⟨ao,rfl,M,ap⟩;have aa:=M.blk;have ac:=M.ext;have aq:=M.pos;have ar:=M.size;revert N F X L rx Z;refine eE ac ?_;intro N F X L rx Z;refine Hk (R:=fun _=>False) (sh:=GP) (z:=x.cval) Ad CY rfl rfl rfl rfl A9 rfl rfl rfl Ae (fun _ h=>by exact h) (fN Ae) ⟨_,_,_,_,_,_,rfl⟩ Ab Ab rfl ?_;rintro au ad av aw ax ay G;have az:=G.size;have aa:=fB aa G (fun h=>by have:=O _ h;omega);have N:=fB N G (fun h=>by have:=O _ h;omega);clear F;have X:=gE X G (fun k hk=>by have:=O _ hk;omega);have L:=fO L G (fun b hb h=>by have:=O _ h;omega);clear rx;have Z:=eW Z G (fun b hb h=>by have:=O _ h;omega);refine C1 Pa (Ak (Af (Ag (Aj (C1 V7 (C1 Mv (Ak ?_)))))))
   rw [U];exact AI (j+1,some ⟨_,0,none⟩,_) sB ⟨by simp only;rw [<-U];assumption,by simp only;omega,L,X⟩ (by simp only;omega)
 . obtain rfl:j=l.length:=by omega
   rw [dB] at F;refine eK ?_;refine xR ?_;simp only [dB];exact ⟨_,_,rfl,F,X⟩
def KidsAt (w:wD) (a:oA) (kids:List (Int×Bool)):Prop:=kids=[] \/ ∃b o,a=some ⟨b,o,none⟩/\b<w.heap.size /\ ∀(i:Nat) (x:Int×Bool),kids[i]? = some x -> ∃(k n:Int) (s:lB) (c:oA) (m d:Nat),Row w ⟨b,o+i*6,none⟩ [.int .u8 k,.int .i64 n,str s,.slice c m d,.int .i64 x.1,.bool x.2]
def KidsAt.ext {w w':wD} {a:oA} {kids:List (Int×Bool)} (h:KidsAt w a kids) (x:Ext w w'):KidsAt w' a kids:=h.imp id fun ⟨b,o,h1,h2,h3⟩=>⟨b,o,h1,Nat.lt_of_lt_of_le h2 x.size,fun i y F=>by
 obtain ⟨k,n,s,c,m,d,r⟩:=h3 i y F;exact ⟨k,n,s,c,m,d,r.ext x⟩⟩
instance {w w':wD} {a:oA} {kids:List (Int×Bool)}:LfE w w' (KidsAt w a kids) (KidsAt w' a kids):=⟨fun x h=>Bk.KidsAt.ext h x⟩
def OwnQ.kidsAt {w:wD} {R:nP} {B e cap m:Nat} {a:oA} {kids:List (Int×Bool)} (h:OwnQ GP w R B e (.slice a m cap) kids):KidsAt w a kids:=by
 by_cases G:kids=[]
 . exact bW G
 . obtain ⟨g,L,M,-,N,F⟩:=h.rows G;simp only [dI] at M;obtain ⟨rfl,-,-⟩:=M;refine bX ⟨g,0,rfl,N,fun i x O=>?_⟩;obtain ⟨cs,U,k,n,s,c,m,d,rfl⟩:=F i x O;exact ⟨k,n,s,c,m,d,by simpa [GP] using U⟩
set_option maxHeartbeats 8000000 in
def Yw (k n:Int) (s:lB) (l:List Nd) (na:oA) (nc:Nat) (kids:List (Int×Bool)) (a:oA) (c:Nat) (w:wD) (hl:kids.length<=1000000) (F:KidsAt w a kids) (h1:k=6\/k=7->kids.length=1) (h2:8<=k->kids.length=2) (h0:1<=k) :
 Calls prog 184 #[(Nd.mk k n s l).val na nc,.slice a kids.length c] w fun e w'=>e = .returned (.tuple #[.int .i64 (Gz k n kids).1,.bool (Gz k n kids).2])/\Ext w w':=by
 have X:=eU w;have HK:=bU F;clear F;refine Ac func184 ntmps184 rfl rfl ?_;refine cS (eB [_,_,_,_] ?_);intro b1 w2 L x5 p6 z7;have X:=X.ext x5;refine C1 Pa (C1 Pa (cT (Ai (cS (C1 Mv (C1 Pz (C1 Mv (cT ?_))))))));refine Av ?_;refine A1 (ι:=Nat) (fun j=>[(1,.slice a kids.length c),(2,.pointer (some ⟨b1,0,none⟩)),(10,.slice a kids.length c),(11,.int .i64 kids.length),(12,.int .i64 j)])
  (fun j w'=>j<=kids.length/\Blk w' b1 [.int .u8 k,.int .i64 n,str s,.slice na l.length nc]/\Ext w w'/\(kids.take j).all (·.2)=true)
  (fun j=>kids.length-j) 0 sB ⟨cQ _,L,X,rfl⟩ ?_
 clear L X;rintro j w2 ⟨hj,L,X,N⟩;by_cases Z:j<kids.length
 . rcases HK.out.ext X with F|⟨b,o,rfl,hb,F⟩
   . subst F;simp at Z
   obtain ⟨k',n',s',c',m',d',O⟩:=F j kids[j] (bT Z);have ab:(kids.take (j+1)).all (·.2)=kids[j].2:=by rw [dG Z,List.all_append,N];simp
   have ad:kids[j].2=false->kids.all (·.2)=false:=fun h=>by
    rw [List.all_eq_false];exact ⟨kids[j],cL Z,by rw [h];simp⟩
   clear F;generalize kids[j]=x at *
   focus
    refine eK ?_;refine xA [_,_,_,_,_,_] ?_;intro ay az ai;refine eI [_,_,_,_,_,_] ai ?_;intro a0 aj ak a1 a2;revert L X O;refine eE ak ?_;intro L X O;refine cN (C1 Pf (C1 (Pl aj) (C1 Pt (cT ?_))));refine Hx rfl (fun al=>?_) (fun al=>?_);refine eK ?_;refine xT ?_;rotate_left;refine Am (Af (Ag (Aj (C1 V7 (C1 Mv (Ak ?_))))));rotate_left
   . exact ⟨by rw [Gz,As (by rw [ad Ae];simp)],X⟩
   . exact AI (j+1) sB ⟨Ab,L,X,ab.trans Ae⟩ Ab
 . obtain rfl:j=kids.length:=by omega
   rw [dB] at N;have hv:Gz k n kids=if k=1 then (n,true) else if k=2\/k=3\/k=4\/k=5 then (0,false) else if k=6\/k=7 then ((E0 k (kids.getD 0 (0,false)).1).1,decide ((E0 k (kids.getD 0 (0,false)).1).2=0)) else ((EZ k (kids.getD 0 (0,false)).1 (kids.getD 1 (0,false)).1).1,decide ((EZ k (kids.getD 0 (0,false)).1 (kids.getD 1 (0,false)).1).2=0)):=by rw [Gz,AG N]
   rw [hv];clear N hv;by_cases k5:k<=5
   . clear h1 h2 HK
     focus
      refine eK ?_;refine Ay rfl (fun am=>?_) (fun am=>?_);refine eK ?_;refine xT ?_;rotate_left;refine eK ?_;refine Ay rfl (fun an=>?_) (fun an=>?_);refine eK ?_;refine xT ?_;rotate_left;refine eK ?_;refine Ay rfl (fun ao=>?_) (fun ao=>?_);refine eK ?_;refine xT ?_;rotate_left;refine eK ?_;refine Ay rfl (fun ap=>?_) (fun ap=>?_);refine eK ?_;refine xT ?_;rotate_left;refine eK ?_;refine xT ?_;rotate_left
     all_goals (refine ⟨?_,X⟩;first|rw [AG Ab]|rw [As Ab,AG Ab])
   by_cases k7:k<=7
   . have ac:=h1 Ab
     match kids,ac with
     | [x],_=>
      rcases HK.out.ext X with F|⟨b,o,rfl,hb,F⟩
      . cases F
      obtain ⟨k',n',s',c',m',d',O⟩:=F 0 x rfl;clear h1 h2 HK F
      focus
       refine eK ?_;refine Ay rfl (fun aq=>?_) (fun aq=>?_);refine eK ?_;refine Ar (fun U=>Ext w2 U) 11 (.pure 0 (.pure 1 (.pure 2 (.pure 3 (.pure 4 (.pure 5 (.fork 6 (.pure 7 (.pure 8 (.pure 9 (.pure 10 .tail)))) .none))))))) mixed A9 (Al (Aa Ah)) ?_;intro ar ae _;have V:(fun U=>Ext w2 U) ar:=ae;simp only at V;have aa:=L;have G:=O;revert L X O;refine eY ae ?_;intro a3 L X O;refine ⟨V,?_⟩;refine eT ?_;refine Tq rfl (Dr G) ?_;refine tC rfl rfl (Ot _ _ _) ?_;rintro _ a4 ⟨⟨⟩,rfl⟩;refine ⟨V,?_⟩;refine Tq rfl Mv (Tq rfl Px (Tq rfl Px (Tq rfl Pa ?_)));refine At rfl ?_;refine eK ?_;refine xT ?_;rotate_left;refine eK ?_;refine Ar (fun U=>Ext w2 U) 11 (.pure 0 (.pure 1 (.pure 2 (.pure 3 (.pure 4 (.pure 5 (.fork 6 (.pure 7 (.pure 8 (.pure 9 (.pure 10 .tail)))) .none))))))) mixed A9 (Al (Aa Ah)) ?_;intro au af _;have M:(fun U=>Ext w2 U) au:=af;simp only at M;have aa:=L;have G:=O;revert L X O;refine eY af ?_;intro aw L X O;refine ⟨M,?_⟩;refine eT ?_;refine Tq rfl (Dr G) ?_;refine tC rfl rfl (Ot _ _ _) ?_;rintro _ ax ⟨⟨⟩,rfl⟩;refine ⟨M,?_⟩;refine Tq rfl Mv (Tq rfl Px (Tq rfl Px (Tq rfl Pa ?_)));refine At rfl ?_;refine eK ?_;refine xT ?_;rotate_left
      all_goals (refine ⟨?_,X⟩;rw [As Ab,As Ab,AG Ab];rfl)
   . have ac:=h2 Ab
     match kids,ac with
     | [x,y],_=>
      rcases HK.out.ext X with F|⟨b,o,rfl,hb,F⟩
      . cases F
      obtain ⟨k',n',s',c',m',d',O⟩:=F 0 x rfl;obtain ⟨a5,a6,a7,a8,a9,ba,r1⟩:=F 1 y rfl;clear h1 h2 HK F;refine eK ?_;refine Ar (fun U=>Ext w2 U) 15 (.pure 0 (.pure 1 (.pure 2 (.pure 3 (.pure 4 (.pure 5 (.pure 6 (.pure 7 (.pure 8 (.pure 9 (.fork 10 (.pure 11 (.pure 12 (.pure 13 (.pure 14 .tail)))) .none))))))))))) mixed A9 (Al (Aa Ah)) ?_;intro av ag _;have Y:(fun U=>Ext w2 U) av:=ag;simp only at Y;have aa:=L;have G:=O;have ah:=r1;revert L X O r1;refine eY ag ?_;intro bb L X O r1;refine ⟨Y,?_⟩;refine eT ?_;refine Tq rfl (Dr G) ?_;refine eT ?_;refine Tq rfl (Dr ah) ?_;refine tC rfl rfl (SI _ _ _ _) ?_;rintro _ bc ⟨⟨⟩,rfl⟩;refine ⟨Y,?_⟩;refine Tq rfl Mv (Tq rfl Px (Tq rfl Px (Tq rfl Pa ?_)));refine At rfl ?_;refine eK ?_;refine xT ?_;refine ⟨?_,X⟩;rw [As Ab,As Ab,As Ab];rfl
def Yx (k n:Int) (s:lB) (a:oA) (m c:Nat) (v:Int) (q:Bool) (w:wD) :
 Calls prog 187 #[.agg #[.int .u8 k,.int .i64 n,str s,.slice a m c,.int .i64 v,.bool q]] w fun e w'=>e = .returned (.agg #[.int .u8 k,.int .i64 n,str s,.slice a m c])/\Ext w w':=by
 have X:=eU w;refine Ac func187 ntmps187 rfl rfl ?_;refine cS (eB [_,_,_,_,_,_] ?_);intro Z w2 h N p6 z7;have X:=X.ext N;refine eA [_,_,_,_] ?_;intro b8 w9 F G O U;revert h X;refine eE G ?_;intro h X;refine eK ?_;refine eS [_,_,_,_] F ?_;intro V L M Y;revert h X;refine eF M ?_;intro h X;refine eK ?_;refine xC L ?_;all_goals exact ⟨rfl,X⟩
def Yy (kids:List (Int×Bool)) (hl:kids.length<=1000000) (a:oA) (c:Nat) (w:wD) (V:KidsAt w a kids) :
 Calls prog 186 #[.slice a kids.length c,.func (.func 187) #[] #[]] w (EachR (Im 4) 26 (kids.map fun _=>()) w):=by
 have X:=eU w;refine Ac func186 ntmps186 rfl rfl ?_;refine cS (C1 Pa (cN (C1 Pa (cT (Ai (cS (C1 Mv (C1 Pz (C1 Mv (cT ?_))))))))));refine Av ?_;refine A1 (ι:=Nat×oA×Nat) (fun x=>[(1,.func (.func 187) #[] #[]),(5,.slice x.2.1 (dJ x.1 ()).length x.2.2),(8,.slice a kids.length c),(9,.int .i64 kids.length),(10,.int .i64 x.1)])
  (fun x w'=>OwnQ (Im 4) w' (fun _=>False) w.heap.size 26 (.slice x.2.1 (dJ x.1 ()).length x.2.2) (dJ x.1 ())/\x.1<=kids.length/\Ext w w')
  (fun x=>kids.length-x.1) (0,none,0) sB ⟨OwnQ.nil,cQ _,X⟩ ?_
 clear X;rintro ⟨j,ra,rc⟩ w1 ⟨F,hj,X⟩;simp only at F hj X;have U : ∀g,(cY ra (dJ j ()).length rc).ownBlock=some g->w.heap.size<=g/\g<w1.heap.size:=fun g h=>⟨F.ge h,F.lt h⟩
 have av:=X.size;by_cases Z:j<kids.length
 . rcases V.ext X with V|⟨b,o,rfl,hb,aa⟩
   . subst V;simp at Z
   obtain ⟨k',n',s',c',m',d',Y⟩:=aa j kids[j] (bT Z);have aw:(dJ j ()).length<=1000000:=by simp;omega
   have N:dJ j ()++[()]=dJ (j+1) ():=by rw [List.replicate_succ']
   clear aa V;generalize kids[j]=x at *;refine eK ?_;refine xA [_,_,_,_,_,_] ?_;intro ax ay ad;refine eI [_,_,_,_,_,_] ad ?_;intro az M ae a0 a1;revert F X Y;refine eE ae ?_;intro F X Y;refine eK ?_;refine AC (Bv (fi:=[]) (ca:=[]) A9 rfl rfl (Yx _ _ _ _ _ _ _ _ _) (fun _ _ h=>⟨_,h.1⟩)) rfl ?_ aFh;rintro _ ag ⟨⟨⟩,af⟩;revert M F X Y;refine eY af ?_;intro ah M F X Y;refine AC (xS [_,_,_,_]) rfl ?_ aFh;rintro _ ai ⟨aj,rfl,G,ak⟩;have O:=G.blk;have ab:=G.ext;have al:=G.pos;have am:=G.size;revert M F X Y;refine eE ab ?_;intro M F X Y;refine Hk (R:=fun _=>False) (sh:=Im 4) (z:=()) Ad CY rfl rfl rfl rfl A9 rfl rfl rfl Ae (fun _ h=>by exact h) (fN Ae) ⟨rfl,rfl⟩ Ab Ab rfl ?_;rintro an ac ao ap aq ar L;have au:=L.size;have O:=fB O L (fun h=>by have:=U _ h;omega);have M:=fB M L (fun h=>by have:=U _ h;omega);clear F;have X:=gE X L (fun k V=>by have:=U _ V;omega);refine C1 Pa (Ak (Af (Ag (Aj (C1 V7 (C1 Mv (Ak ?_)))))));rw [N];exact AI (j+1,some ⟨_,0,none⟩,_) sB ⟨by simp only;rw [<-N];assumption,by simp only;omega,X⟩ (by simp only;omega)
 . obtain rfl:j=kids.length:=by omega
   have e:kids.map (fun _=>())=dJ kids.length ():=by rw [List.map_const']
   rw [e];refine eK ?_;refine xR ?_;exact ⟨_,_,rfl,F,X⟩
def Fp (v:Int):Prop:= -9223372036854775808<=v/\v<=9223372036854775807
def Kb (v:Int):Fp (Ko v):=by
 unfold Fp Ko;rw [IntKind.wrap];simp [IntKind.signed,IntKind.bits];split<;>omega
def Td (b:Bool):Fp (U5 b):=by cases b<;>simp [U5,Fp]
def N1 (k x:Int):Fp (E0 k x).1:=by
 unfold E0;split
 . exact Kb _
 split
 . exact Td _
 . simp [Fp]
def Te (o:BinOp) (x y:Int):Fp (M3 o x y):=by
 unfold M3;split<;>exact Kb _
def Ww {x y:Int} (h:Fp x):Fp (x.tmod y):=by
 have G:=Int.natAbs_tmod x y;have L:=Nat.mod_le x.natAbs y.natAbs;unfold Fp at h ⊢;by_cases F:0<=x
 . have:=Int.tmod_nonneg y F;omega
 . have M:(-x).tmod y = - x.tmod y:=Int.neg_tmod ..;have N:=Int.tmod_nonneg y (show 0 <= -x by omega);omega
def Gq {c:Prop} [Decidable c] {a b:Int×Int} (h:Fp a.1) (F:Fp b.1):Fp (if c then a else b).1:=by split<;>assumption
def N2 (k:Int) {x y:Int} (h:Fp x):Fp (EZ k x y).1:=by
 unfold EZ TF
 repeat' (refine Gq ?_ ?_)
 all_goals first
  | exact Kb _
  | exact Td _
  | exact Te _ _ _
  | exact Ww h
  | (constructor<;>decide)
def Sj {k n:Int} {kids:List (Int×Bool)} (h:Fp n) (F : ∀x∈kids,Fp x.1):Fp (Gz k n kids).1:=by
 have G:Fp (kids.getD 0 (0,false)).1:=by
  cases kids with
  | nil=>simp [Fp]
  | cons x r=>exact F x AR
 unfold Gz
 repeat' split
 all_goals first
  | exact h
  | exact N1 _ _
  | exact N2 _ G
  | simp [Fp]
def Wx {x:Int×Bool} (h:Fp x.1):Fp (Tc x).1:=by
 unfold Tc;split
 . exact h
 . simp [Fp]
mutual
def QQ : ∀t:Nd,t.wf->Fp t.cval.1
 | .mk k n s l,h=>by
  simp only [Nd.wf] at h;rw [Nd.cval];exact Wx (Sj ⟨h.2.2.1,h.2.2.2.1⟩ (Tf l h.2.2.2.2.2.2))
def Tf : ∀l:List Nd,C9 l -> ∀x∈Ho l,Fp x.1
 | [],_,x,hx=>by simp [Ho] at hx
 | t::r,h,x,hx=>by
  simp only [C9] at h;simp only [Ho,dQ] at hx;rcases hx with rfl|hx
  . exact QQ t h.1
  . exact Tf r h.2 x hx
end
def II {k n:Int} {s:lB} {l:List Nd} (h:(Nd.mk k n s l).isExpr=true):1<=k/\(∀x∈l,x.isExpr=true)/\(k=6\/k=7->l.length=1)/\(8<=k->l.length=2):=by
 rw [Nd.isExpr.eq_def] at h;simp only at h;split at h
 . rename_i F;simp only [bZ,List.isEmpty_iff] at h;rw [h.2];exact ⟨Ab,AR,Ab,Ab⟩
 split at h
 . simp only [bZ,List.isEmpty_iff] at h;rw [h.2];exact ⟨Ab,AR,Ab,Ab⟩
 split at h
 . match l,h with
   | [x],h=>
    simp only [bZ] at h;exact ⟨Ab,by simpa using h.2,Ab,Ab⟩
   | [],h=>simp at h
   | _::_::_,h=>simp at h
 split at h
 . match l,h with
   | [x],h=>
    simp only [bZ] at h;exact ⟨Ab,by simpa using h.2,fun _=>rfl,Ab⟩
   | [],h=>simp at h
   | _::_::_,h=>simp at h
 split at h
 . match l,h with
   | [x,y],h=>
    simp only [bZ] at h;exact ⟨Ab,by simpa using h.2,Ab,fun _=>rfl⟩
   | [],h=>simp at h
   | [_],h=>simp at h
   | _::_::_::_,h=>simp at h
 . simp at h
def ZF (N:Nat) : ∀(t:Nd),t.size<N->t.size<=1000000->t.wf->t.isExpr=true -> ∀(S:nP) (a:oA) (c:Nat) (w:wD),t.sits S w a->Calls prog 175 #[t.val a c] w (FoldR t w):=by
 induction N with
 | zero=>intro t h;omega
 | succ N ih=>
  rintro ⟨k,n,s,l⟩ hN hM hf hx S a c w Y;have ap:=C0 l;simp only [fF] at hN hM;have hR:=QQ _ hf;obtain ⟨e1,e2,e3,e4⟩:=II hx;simp only [Nd.wf] at hf;have HC:=bU (fun x M=>ih x (by have:=Cz M;omega) (by have:=Cz M;omega) (BF hf.2.2.2.2.2.2 x M) (e2 x M));clear ih hf hx;have Z:(l.map Nd.cval).length=l.length:=by simp
  have aa:(Nd.mk k n s l).cval=Tc (Gz k n (l.map Nd.cval)):=by rw [Nd.cval,K1]
  have X:=eU w;refine Ac func175 ntmps175 rfl rfl ?_;refine cS (eB [_,_,_,_] ?_);intro b1 w2 L x5 p6 z7;revert Y X;refine eE x5 ?_;intro Y X;refine eA [_,_,_,_,_,_] ?_;intro b8 w9 F aj a0 a1;revert L Y X;refine eE aj ?_;intro L Y X;refine eK ?_;refine eQ rfl (Yv l Ab _ _ _ _ (E4 Ae) HC.out) ?_;rintro _ ak ⟨ab,⟨ac,⟨⟨⟩,⟨ad,al⟩⟩⟩⟩;revert F L Y X;refine eY al ?_;intro z21 F L Y X;refine C1 Pa (cT (Ai ?_));have G:=ad.kidsAt;have HV:=bU (Yw k n s l a c (l.map Nd.cval) ab ac ak Ab G (fun h=>by rw [Z];exact e3 h) (fun h=>by rw [Z];exact e4 h) e1);have HE:=bU (Yy (l.map Nd.cval) Ab ab ac);have ae:=aa;rw [aa] at hR;clear e1 e2 e3 e4 HC Y Z ad aa;generalize l.map Nd.cval=kids at *;generalize Gz k n kids=cv at *;obtain ⟨v,q⟩:=cv;dsimp only at HV;cases q
  . refine eK ?_;refine cC rfl (HV.out) ?_;rintro _ a2 ⟨⟨⟩,am⟩;revert F L X G;refine eY am ?_;intro a3 F L X G;refine eK ?_;refine eQ rfl (HE.out _ Ae) ?_;rintro _ a4 ⟨a5,⟨a6,⟨⟨⟩,⟨a7,an⟩⟩⟩⟩;revert F L X G;refine eY an ?_;intro a8 F L X G;refine C1 Pf (eV [_] [_,_,_,_] L ?_);intro aq O U ar;revert F X;refine eF U ?_;intro F X;clear G U;refine eK ?_;refine C1 (xB [_,_,_,_,_,_]) (eS [_,_,_,_,_,_] F ?_);intro au af ag av;revert O X;refine eF ag ?_;intro O X;refine eK ?_;refine xC af ?_;exact ⟨_,_,_,_,_,_,by rw [ae];rfl,X⟩
  . refine eK ?_;refine cC rfl (HV.out) ?_;rintro _ a9 ⟨⟨⟩,ao⟩;revert F L X G;refine eY ao ?_;intro ba F L X G;refine eK ?_;refine eQ rfl (UH _ _ hR.1) ?_;rintro _ aw ⟨bb,⟨bc,⟨bd,⟨be,⟨bf,⟨bg,⟨⟨⟩,ah⟩⟩⟩⟩⟩⟩⟩;revert F L X G;refine eY ah ?_;intro ax F L X G;refine C1 Mv (C1 (xB [_,_,_,_,_,_]) (eS [_,_,_,_,_,_] F ?_));intro ay ai V az;revert L X;refine eF V ?_;intro L X;clear G V;refine eK ?_;refine xC ai ?_;exact ⟨_,_,_,_,_,_,by rw [ae];rfl,X⟩
def Nd.const (t:Nd):Int×Bool:=if t.isExpr=true then t.cval else (0,false)
def Yz (t:Nd) (hM:t.size<=1000000) (hf:t.wf) (S:nP) (a:oA) (c:Nat) (w:wD) (h:t.sits S w a):Calls prog 162 #[t.val a c] w fun e w'=>e = .returned (.tuple #[.int .i64 t.const.1,.bool t.const.2])/\Ext w w':=by
 have F:=FX S t hf;unfold Et at F;have X:=eU w;by_cases O:t.isExpr=true
 . have HF:=bU (ZF (t.size+1) t Ab hM hf O);have Z:t.const=t.cval:=by rw [Nd.const,AG O]
   rw [Z];rw [O] at F;have HE:=bU F;clear F;refine Ac func162 ntmps162 rfl rfl ?_;refine cS (eB [_,_,_,_] ?_);intro b1 w2 L x5 p6 z7;revert h X;refine eE x5 ?_;intro h X;refine eK ?_;refine cC rfl (HE.out _ _ _ Ae) ?_;rintro _ w9 ⟨⟨⟩,x8⟩;revert L h X;refine eY x8 ?_;intro aj L h X;refine eK ?_;refine eQ rfl (HF.out _ _ _ _ Ae) ?_;rintro _ ak ⟨al,⟨am,⟨an,⟨ao,⟨m15,⟨ap,⟨⟨⟩,aa⟩⟩⟩⟩⟩⟩⟩;revert L h X;refine eY aa ?_;intro aq L h X;refine xA [_,_,_,_,_,_] ?_;intro ar au ab;refine eI [_,_,_,_,_,_] ab ?_;intro U N ac av aw;revert L h X;refine eE ac ?_;intro L h X;refine eK ?_;refine Ar (fun wz=>Ext U wz) 5 (.pure 0 (.pure 1 (.pure 2 (.pure 3 (.pure 4 .tail))))) mixed A9 (Aa Ah) ?_;intro ad V _;have M:(fun wz=>Ext U wz) ad:=V;simp only at M;have G:=N;have ag:=L;have ah:=h;revert N L h X;refine eY V ?_;intro ax N L h X;refine ⟨M,?_⟩;refine Tq rfl Pf (Tq rfl (Db G) (Tq rfl Pf (Tq rfl (Db G) (Tq rfl Pa ?_))));refine At rfl ?_;refine eK ?_;refine xT ?_;all_goals exact ⟨rfl,X⟩
 . have Z:t.const=(0,false):=by rw [Nd.const,As O]
   rw [Z];rw [Bool.not_eq_true] at O;rw [O] at F;have HE:=bU F;clear F;refine Ac func162 ntmps162 rfl rfl ?_;refine cS (eB [_,_,_,_] ?_);intro ay az Y ae a0 a1;revert h X;refine eE ae ?_;intro h X;refine eK ?_;refine cC rfl (HE.out _ _ _ Ae) ?_;rintro _ a2 ⟨⟨⟩,af⟩;revert Y h X;refine eY af ?_;intro ai Y h X;refine eK ?_;refine xT ?_;exact ⟨rfl,X⟩
def Jk (t:Nd) (G:t.size<=1000000) (L:t.wf) (S:nP) (a:oA) (c:Nat) (w:wD) (h:t.sits S w a):Calls prog 143 #[t.val a c] w fun e w'=>e = .returned (.bool t.const.2)/\Ext w w':=by
 have X:=eU w;refine Ac func143 ntmps143 rfl rfl ?_;refine cS (eB [_,_,_,_] ?_);intro U V F M Y Z;revert h X;refine eE M ?_;intro h X;refine eK ?_;refine cC rfl (Yz _ G L _ _ _ _ Ae) ?_;rintro _ w9 ⟨⟨⟩,N⟩;revert F h X;refine eY N ?_;intro O F h X;refine eK ?_;refine xR ?_;exact ⟨rfl,X⟩
def Nd.idx (t:Nd) (s:lB):Bool:=decide (t.kind=3)&&(match t.kids with
 | []=>false
 | x::_=>x.ment s)
def DL (places:List Nd) (names:List lB):Option lB:=places.findSome? fun t=>names.find? fun s=>t.idx s
def EO (o:Option lB):lB×Int:=match o with
 | some s=>(s,8)
 | none=>([],0)
def Nd.okIdx (t:Nd):Prop:=t.kind=3->t.kids≠[]
def N3 (t:Nd) (V:t.size<=1000000) (hp:t.okIdx) (s:List UInt8) (S:Nat->Prop) (a:Option Addr) (c:Nat) (w:World) (h:t.sits S w a):Calls prog 138 #[t.val a c,str s] w fun e w'=>e = .returned (.bool (t.idx s))/\Ext w w':=by
 obtain ⟨k,n,Y,l⟩:=t;have X:=eU w
 by_cases h3:k=3
 . subst h3;have Z:l≠[]:=hp rfl
   match l,Z,h,V with
   | x::r,_,h,V=>
    have G:=E4 h;obtain ⟨kb,ko,rfl,kS,F⟩:=BA G AR;obtain ⟨xa,xc,L,N⟩:=F 0 x rfl
    have aa:x.size<=1000000:=by simp only [fF,Aq] at V;omega
    have O:(Nd.mk 3 n Y (x::r)).idx s=x.ment s:=by unfold Nd.idx;simp [fS,gB]
    rw [O];clear F h G hp O
    show Calls prog 138 #[.agg #[.int .u8 3,.int .i64 n,str Y,.slice (some ⟨kb,ko,none⟩) (r.length+1) c],str s] w _
    refine Ac func138 ntmps138 rfl rfl ?_
    refine cS ?_;refine eB [_,_,_,_] ?_;intro b1 w2 U x5 p6 z7;revert X h L N;refine eE x5 ?_;intro X h L N;clear x5;refine C1 Pa (cN (C1 Pg (C1 (Pl U) (C1 V1 (C1 Mv (Rx (C1 Pf (Rx (C1 (Pl U) (Rx (C1 Pi ?_)))))))))));refine Rx (Ce [_,_,_,_] Ad rfl rfl rfl L rfl rfl rfl (Rx (C1 Mv (Rx ?_))));refine cC rfl (Mz _ aa _ _ _ _ _ Ae) ?_;rintro _ w9 ⟨⟨⟩,x8⟩;have ac:=x8.size;revert U X h L N;refine eE x8 ?_;intro U X h L N;clear x8;refine C1 Y3 (C1 Pa (cT (AN (AM rfl rfl ?_))))
    exact ⟨rfl,X⟩
 . have O:(Nd.mk k n Y l).idx s=false:=by unfold Nd.idx;simp [fS,h3]
   rw [O];refine Ac func138 ntmps138 rfl rfl ?_
   refine cS ?_;refine eB [_,_,_,_] ?_;intro ad ae ab M af ag;revert h X;refine eE M ?_;intro h X;clear M;refine C1 Pa (cN (C1 Pg (C1 (Pl ab) (C1 V1 (C1 Mv (Ry (Ry (Ry (Ry (Ry (Ry ?_)))))))))));refine C1 Rk (C1 Pa (cT (AN (AM rfl rfl ?_))))
   exact ⟨rfl,X⟩
def UI {α:Type} {f:α->Bool} {l:List α} {j:Nat} (h:j<l.length) (G:(l.take j).find? f=none):(l.take (j+1)).find? f=if f l[j]=true then some l[j] else none:=by
 rw [dG h,List.find?_append,G];by_cases F:f l[j]=true
 . simp [F]
 . simp [F]
def UJ {α:Type} {f:α->Bool} {l:List α} {j:Nat} {x:α} (h:(l.take j).find? f=some x):l.find? f=some x:=by
 rw [<-List.take_append_drop j l,List.find?_append,h];rfl
def Sm {α β:Type} {f:α->Option β} {l:List α} {j:Nat} (h:j<l.length) (F:(l.take j).findSome? f=none):(l.take (j+1)).findSome? f=f l[j]:=by
 rw [dG h,List.findSome?_append,F];simp
def Sn {α β:Type} {f:α->Option β} {l:List α} {j:Nat} {x:β} (h:(l.take j).findSome? f=some x):l.findSome? f=some x:=by
 rw [<-List.take_append_drop j l,List.findSome?_append,h];rfl
def O5 (F:List Nd) (G:List lB) (hz:Aq F<=1000000) (hp : ∀t∈F,t.okIdx) (hn:G.length<=1000) (S:nP) (a:oA) (c V:Nat) (no nc:Nat) (w:wD) (M:rowSits S w F a) (O:Row w ⟨V,no,none⟩ (G.map str)) :
 Calls prog 140 #[.slice a F.length c,.slice (some ⟨V,no,none⟩) G.length nc] w fun e w'=>e = .returned (.tuple #[str (EO (DL F G)).1,.int .i64 (EO (DL F G)).2])/\Ext w w':=by
 have X:=eU w;have al:=C0 F;have HP:=bU hp;clear hp;have M:=BV _ _ M;refine Ac func140 ntmps140 rfl rfl ?_;refine cS (C1 Pa (C1 Pa (cT (Ai (cS (C1 Mv (C1 Pz (C1 Mv (cT ?_)))))))));refine Av ?_;refine A1 (ι:=Nat) (fun i=>[(1,.slice (some ⟨V,no,none⟩) G.length nc),(10,.slice a F.length c),(11,.int .i64 F.length),(12,.int .i64 i)])
  (fun i w'=>i<=F.length/\rowSits (· < w.heap.size) w' F a/\Row w' ⟨V,no,none⟩ (G.map str)/\Ext w w'/\(F.take i).findSome? (fun t=>G.find? fun s=>t.idx s)=none)
  (fun i=>F.length-i) 0 sB ⟨cQ _,M,O,X,rfl⟩ ?_
 clear M O X;rintro i w1 ⟨hi,M,O,X,L⟩;by_cases U:i<F.length
 . obtain ⟨kb,ko,rfl,kS,Y⟩:=BA M (by intro e;subst e;simp at U);obtain ⟨xa,xc,rx,Z⟩:=Y i F[i] (bT U);have am:=Cz (cL U);have af:=HP.out _ (cL U);have N:=Sm U L;have ab : ∀s,G.find? (fun s=>F[i].idx s)=some s->EO (DL F G)=(s,8):=fun s h=>by rw [DL,Sn (N.trans h)];rfl
   clear Y HP L;generalize F[i]=x at *;refine eK ?_;refine xA [_,_,_,_] ?_;intro ac an ag;refine eI [_,_,_,_] ag ?_;intro ao ad ah ap aq;revert O X M rx Z;refine eE ah ?_;intro O X M rx Z;refine cN (C1 Mv (C1 Pz (C1 Mv (cT ?_))));refine Av ?_;refine A1 (ι:=Nat) (fun j=>[(1,.slice (some ⟨V,no,none⟩) G.length nc),(10,.slice (some ⟨kb,ko,none⟩) F.length c),(11,.int .i64 F.length),(12,.int .i64 i),(7,.pointer (some ⟨ac,0,none⟩)),(16,.slice (some ⟨V,no,none⟩) G.length nc),(17,.int .i64 G.length),(18,.int .i64 j)])
    (fun j w'=>j<=G.length/\Blk w' ac (x.cells xa xc)/\x.sits (· < w.heap.size) w' xa/\rowSits (· < w.heap.size) w' F (some ⟨kb,ko,none⟩)/\Row w' ⟨V,no,none⟩ (G.map str)/\Ext w w'/\(G.take j).find? (fun s=>x.idx s)=none)
    (fun j=>G.length-j) 0 sB ⟨cQ _,ad,Z,M,O,X,rfl⟩ ?_
   clear ad Z M O X rx;rintro j w2 ⟨hj,hb,Z,M,O,X,L⟩;by_cases aa:j<G.length
   . have r1:Row w2 ⟨V,no+j*1,none⟩ [str G[j]]:=by
      have:=O.sub j 1;rw [dH (by simpa using aa)] at this;simpa using this
     have ae:=UI aa L;have ai:x.idx G[j]=true->EO (DL F G)=(G[j],8):=fun h=>ab _ (UJ (ae.trans (AG h)))
     have HI:=bU (N3 x Ab af G[j]);clear L ab N;generalize G[j]=y at *;generalize x.idx y=q at *
     focus
      refine eK ?_;refine cC rfl (HI.out _ _ _ _ Ae) ?_;rintro _ ar ⟨⟨⟩,aj⟩;revert hb Z M O X r1;refine eY aj ?_;intro au hb Z M O X r1;refine cT ?_;refine Ge rfl (fun ak=>?_) (fun ak=>?_);refine eK ?_;refine xT ?_;rotate_left;refine Am (Af (Ag (Aj (C1 V7 (C1 Mv (Ak ?_))))));rotate_left
     . exact ⟨by rw [ai Ae],X⟩
     . exact AI (j+1) sB ⟨Ab,hb,Z,M,O,X,ae.trans (As (by simp [*]))⟩ Ab
   . obtain rfl:j=G.length:=by omega
     rw [dB] at L;refine cS (C1 V3 (cT (Ai (Ds (Eg (A8 (A8 (BQ (Af (Ag (Aj ?_)))))))))));refine C1 V7 (C1 Mv (Ak ?_));exact AI (i+1) sB ⟨Ab,M,O,X,N.trans L⟩ Ab
 . obtain rfl:i=F.length:=by omega
   rw [dB] at L;have he:EO (DL F G)=([],0):=by rw [DL,L];rfl
   rw [he];refine eK ?_;refine xT ?_;exact ⟨rfl,X⟩
def UK (t x:Nd) (a xa:oA) (c xc h:Nat) (w:wD) (F:Blk w h (x.cells xa xc)):Calls prog 142 #[t.val a c,.pointer (some ⟨h,0,none⟩)] w fun e w'=>e = .returned (.bool (decide (t.name=x.name)))/\Ext w w':=by
 have X:=eU w;refine Ac func142 ntmps142 rfl rfl ?_;refine cS (eB [_,_,_,_] ?_);intro L M N G O U;revert F X;refine eE G ?_;intro F X;refine eK ?_;refine xR ?_;exact ⟨rfl,X⟩
def So (s:lB) (l:List Nd):Int:=match l.findIdx? (fun t=>decide (t.name=s)) with
 | some i=>(i:Int)
 | none=> -1
def O6 {α:Type} {f:α->Bool} {l:List α} {j:Nat} (h:j<l.length) (G:(l.take j).findIdx? f=none):(l.take (j+1)).findIdx? f=if f l[j]=true then some j else none:=by
 rw [dG h,List.findIdx?_append,G];by_cases F:f l[j]=true
 . simp [F,List.findIdx?_cons];omega
 . simp [F,List.findIdx?_cons]
def O7 {α:Type} {f:α->Bool} {l:List α} {j i:Nat} (h:(l.take j).findIdx? f=some i):l.findIdx? f=some i:=by
 rw [<-List.take_append_drop j l,List.findIdx?_append,h];rfl
def Wy (l:List Nd) (hl:l.length<=1000000) (x:Nd) (S:nP) (a xa:oA) (c xc O:Nat) (w:wD) (F:rowSits S w l a) (N:Blk w O (x.cells xa xc)) :
 Calls prog 161 #[.slice a l.length c,.func (.func 142) #[] #[.pointer (some ⟨O,0,none⟩)]] w fun e w'=>e = .returned (.int .i64 (So x.name l))/\Ext w w':=by
 have X:=eU w;have F:=BV _ _ F;refine Ac func161 ntmps161 rfl rfl ?_;refine cS (C1 Pa (cT (Ai (cS (C1 Mv (C1 Pz (C1 Mv (cT ?_))))))));refine Av ?_;refine A1 (ι:=Nat) (fun j=>[(0,.slice a l.length c),(1,.func (.func 142) #[] #[.pointer (some ⟨O,0,none⟩)]),(6,.slice a l.length c),(7,.int .i64 l.length),(8,.int .i64 j)])
  (fun j w'=>j<=l.length/\rowSits (· < w.heap.size) w' l a/\Blk w' O (x.cells xa xc)/\Ext w w'/\(l.take j).findIdx? (fun t=>decide (t.name=x.name))=none)
  (fun j=>l.length-j) 0 sB ⟨cQ _,F,N,X,rfl⟩ ?_
 clear F N X;rintro j w1 ⟨hj,F,N,X,G⟩;by_cases M:j<l.length
 . obtain ⟨kb,ko,rfl,kS,L⟩:=BA F (by intro e;subst e;simp at M);obtain ⟨ya,yc,ry,sy⟩:=L j l[j] (bT M);have U:=O6 M G;have V:l[j].name=x.name->So x.name l=j:=fun h=>by
    rw [AG (by simpa using h)] at U;rw [So,O7 U]
   clear L G;generalize l[j]=y at *
   focus
    refine eK ?_;refine AC (Bv (fi:=[]) (ca:=[.pointer (some ⟨O,0,none⟩)]) A9 rfl rfl (UK _ x _ xa _ xc _ _ Ae) (fun _ _ h=>⟨_,h.1⟩)) rfl ?_ aFh;rintro _ aa ⟨⟨⟩,Y⟩;revert N X F ry sy;refine eY Y ?_;intro ab N X F ry sy;refine cT ?_;refine Ay rfl (fun Z=>?_) (fun Z=>?_);refine eK ?_;refine xR ?_;rotate_left;refine Am (Af (Ag (Aj (C1 V7 (C1 Mv (Ak ?_))))));rotate_left
   . exact ⟨by rw [V Ae],X⟩
   . exact AI (j+1) sB ⟨Ab,F,N,X,U.trans (As (by simpa using Ae))⟩ Ab
 . obtain rfl:j=l.length:=by omega
   rw [dB] at G;have he:So x.name l = -1:=by rw [So,G]
   rw [he];refine eK ?_;refine xR ?_;exact ⟨rfl,X⟩
def Wz (s:lB) (l:List Nd):decide (0<=So s l)=l.any (fun t=>decide (t.name=s)):=by
 unfold So;cases h:l.findIdx? (fun t=>decide (t.name=s)) with
 | none=>
  rw [List.findIdx?_eq_none_iff] at h;have:l.any (fun t=>decide (t.name=s))=false:=by rw [List.any_eq_false];intro x F;simpa using h x F
  rw [this];rfl
 | some i=>
  have G:=List.findIdx?_eq_some_iff_getElem.1 h;obtain ⟨L,M,-⟩:=G;have:l.any (fun t=>decide (t.name=s))=true:=List.any_eq_true.2 ⟨l[i],cL L,M⟩;rw [this];simp
def QR (l:List Nd) (L:l.length<=1000000) (x:Nd) (S:nP) (a xa:oA) (c xc h:Nat) (w:wD) (F:rowSits S w l a) (G:Blk w h (x.cells xa xc)) :
 Calls prog 141 #[.slice a l.length c,.func (.func 142) #[] #[.pointer (some ⟨h,0,none⟩)]] w fun e w'=>e = .returned (.bool (l.any fun t=>decide (t.name=x.name)))/\Ext w w':=by
 have X:=eU w;rw [<-Wz];refine Ac func141 ntmps141 rfl rfl ?_;refine eK ?_;refine cC rfl (Wy l L x _ _ xa _ xc _ _ Ae Ae) ?_;rintro _ N ⟨⟨⟩,M⟩;revert F G X;refine eY M ?_;intro z3 F G X;refine eK ?_;refine xR ?_;exact ⟨rfl,X⟩
def Ld:List Nd->List Nd->Option lB
 | _,[]=>none
 | acc,t::r=>if acc.any (fun u=>decide (u.name=t.name))=true then some t.name else Ld (acc++[t]) r
def Fc:Nd->lB×Int
 | .mk k _ s l=>
  if k=56 then ((l.getD 0 BO).name,9)
  else if 40<=k/\k<=42 then (if ((l.getD 0 BO).idx (l.getD 0 BO).name||(l.getD 1 BO).ment (l.getD 0 BO).name)=true then ((l.getD 0 BO).name,8) else ([],0))
  else if k=43 then EO (DL l [(l.getD 0 BO).name,(l.getD 1 BO).name])
  else if 44<=k/\k<=45 then EO (DL l [(l.getD 0 BO).name,s])
  else if 46<=k/\k<=49 then EO (DL l [(l.getD 0 BO).name])
  else if 50<=k/\k<=51 then EO (Ld [] l)
  else if k=52 then (if ((l.getD 3 BO).const.2 && !(l.getD 0 BO).const.2)=true then ([],10) else ([],0))
  else if k=53 then (if (l.getD 0 BO).const.2=true then ([],10) else ([],0))
  else ([],0)
def FG (k n:Int) (s:lB) (l:List Nd):Fc (.mk k n s l)=if k=56 then ((l.getD 0 BO).name,9)
 else if 40<=k/\k<=42 then (if ((l.getD 0 BO).idx (l.getD 0 BO).name||(l.getD 1 BO).ment (l.getD 0 BO).name)=true then ((l.getD 0 BO).name,8) else ([],0))
 else if k=43 then EO (DL l [(l.getD 0 BO).name,(l.getD 1 BO).name])
 else if 44<=k/\k<=45 then EO (DL l [(l.getD 0 BO).name,s])
 else if 46<=k/\k<=49 then EO (DL l [(l.getD 0 BO).name])
 else if 50<=k/\k<=51 then EO (Ld [] l)
 else if k=52 then (if ((l.getD 3 BO).const.2 && !(l.getD 0 BO).const.2)=true then ([],10) else ([],0))
 else if k=53 then (if (l.getD 0 BO).const.2=true then ([],10) else ([],0))
 else ([],0):=rfl
def Kc {S:nP} {w:wD} : ∀(l:List Nd) (i:Nat) (a:oA),rowSits S w l a->rowSits S w (l.take i) a
 | _,0,_,_=>by simp [rowSits]
 | [],_+1,_,_=>by simp [rowSits]
 | t::r,i+1,a,h=>by
  simp only [List.take_succ_cons,rowSits] at h ⊢;obtain ⟨b,o,F,c,rfl,G,L,M,N,O,U,V⟩:=h;exact ⟨b,o,F,c,rfl,G,L,M,N,O,U,Kc r i _ V⟩
def Nd.good (t:Nd):Prop:=t.isStmt=true\/t.isBlock=true\/t.isExpr=true
def UL {t:Nd} (h:t.good) (G:40<=t.kind) (F:t.kind<=56):t.isStmt=true:=by
 rcases h with h|h|h
 . exact h
 . obtain ⟨e,-⟩:=DT h;rw [e] at F;simp only [fS] at F;omega
 . have:=GG h;omega
def Gr {t:Nd} (h:t.isPlace=true):t.okIdx:=by
 intro F e;have G:=A0 h;obtain ⟨k,n,s,l⟩:=t;simp only [fS,gB] at F e;subst F e;rw [Nd.isExpr.eq_def] at G;simp at G
def QS {k n:Int} {s:lB} {l:List Nd} (h:(Nd.mk k n s l).isStmt=true) (F:k=56\/(40<=k/\k<=42)) : ∃x y,l=[x,y]/\x.isPlace=true/\y.isExpr=true:=by
 cases BT h<;>first|omega|exact ⟨_,_,rfl,Ae,Ae⟩
def UM {n:Int} {s:lB} {l:List Nd} (h:(Nd.mk 43 n s l).isStmt=true) : ∃x y,l=[x,y]/\x.isPlace=true/\y.isPlace=true:=by
 cases BT h<;>first|omega|exact ⟨_,_,rfl,Ae,Ae⟩
def Tg {k n:Int} {s:lB} {l:List Nd} (h:(Nd.mk k n s l).isStmt=true) (F:44<=k/\k<=49) : ∃x,l=[x]/\x.isPlace=true:=by
 cases BT h<;>first|omega|exact ⟨_,rfl,Ae⟩
def K2 {k n:Int} {s:lB} {l:List Nd} (h:(Nd.mk k n s l).isStmt=true) (F:k=52\/k=53) : ∃x y z u,l=[x,y,z,u]/\x.isExpr=true/\u.isExpr=true:=by
 cases BT h<;>first|omega|exact ⟨_,_,_,_,rfl,Ae,Ae⟩
set_option maxHeartbeats 8000000 in
def WA (t:Nd) (hz:t.size<=1000000) (hf:t.wf) (hg:t.good) (S:Nat->Prop) (a:Option Addr) (c:Nat) (w:World) (M:t.sits S w a) (bx:t.kids.length<=c):Calls prog 112 #[t.val a c] w fun e w'=>e = .returned (.tuple #[str (Fc t).1,.int .i64 (Fc t).2])/\Ext w w':=by
 have bz:=UL hg;clear hg;obtain ⟨k,n,s,l⟩:=t;replace M:=BV _ _ (E4 M);have cx:=C0 l;have HZ:=bU (fun x (hx:x∈l)=>Cz hx)
 have ea:Aq l<=1000000:=by simp only [fF] at hz;omega
 have HF:=bU (fun x (hx:x∈l)=>BF (by simp only [Nd.wf] at hf;exact hf.2.2.2.2.2.2) x hx);have HT:=bU (fun h1 h2=>bz h1 h2);simp only [fS] at HT;clear bz hf hz;simp only [gB] at bx;have X:=eU w
 show Calls prog 112 #[.agg #[.int .u8 k,.int .i64 n,str s,.slice a l.length c]] w _
 refine Ac func112 ntmps112 rfl rfl ?_
 focus
  refine cS ?_;refine eB [_,_,_,_] ?_;intro b1 w2 F x5 p6 z7;revert M X;refine eE x5 ?_;intro M X;clear x5;refine C1 Pa (C1 Pa (cT (Ai (cS (C1 Pg (C1 (Pl F) (cT (Av (cS (C1 V1 (C1 Pa ?_)))))))))));refine cT ?_;refine Ay rfl (fun c8=>?_) (fun c8=>?_);rotate_left;refine Ai ?_;rotate_left
 . obtain ⟨x,y,rfl,hx,hy⟩:=QS (HT.out Ab Ab) (bW Ab);obtain ⟨kb,ko,rfl,kS,G⟩:=BA M AR;obtain ⟨xa,xc,L,O⟩:=G 0 x rfl
   have he:Fc (.mk k n s [x,y])=(x.name,9):=by rw [FG,AG Ab];rfl
   rw [he];clear M G he;replace F:Blk w2 b1 [.int .u8 k,.int .i64 n,str s,.slice (some ⟨kb,ko,none⟩) 2 c]:=F
   refine cS (C1 Pf (C1 (Pl F) (C1 Pi (C1 Pf (C1 (Pw L) (C1 Pa (C1 Pa (cT (AN (AH (Ao ?_)))))))))));refine Be rfl rfl rfl ?_
   exact ⟨rfl,X⟩
 refine DY (ι:=Unit) (fun _=>[(1,.pointer (some ⟨b1,0,none⟩)),(10,.int .u8 k),(18,.bool (decide (40<=k/\k<=42)))]) (fun _ w'=>w'=w2) ?_ ?_
 . focus
    refine cS (C1 V1 (C1 Pa (cT ?_)));refine Ay rfl (fun b6=>?_) (fun b6=>?_);refine Am ?_;rotate_left;refine cS (C1 V1 (C1 Pa (cT ?_)));refine Ay rfl (fun b7=>?_) (fun b7=>?_);refine Am ?_;rotate_left;refine Aj (C1 V1 (C1 Pa (Ak ?_)));rotate_left
   all_goals exact B8 () (AQ rfl (AQ rfl (Bx rfl (congrArg Value.bool (decide_eq_decide.2 Ab)) Cy))) rfl
 rintro-u1 h;subst h
 focus
  refine Ay rfl (fun b8=>?_) (fun b8=>?_);rotate_left;rotate_left
 . obtain ⟨x,y,rfl,hx,hy⟩:=QS (HT.out Ab Ab) (bX Ab);obtain ⟨kb,ko,rfl,kS,G⟩:=BA M AR;obtain ⟨xa,xc,L,O⟩:=G 0 x rfl;obtain ⟨ya,yc,V,Y⟩:=G 1 y rfl
   have he:Fc (.mk k n s [x,y])=if (x.idx x.name||y.ment x.name)=true then (x.name,8) else ([],0):=by rw [FG,As Ab,AG Ab];rfl
   have HI:=bU (N3 x (by have:=HZ.out x AR;omega) (Gr hx) x.name);have HM:=bU (Mz y (by have:=HZ.out y AR;omega) x.name);rw [he];clear M G he
   generalize x.idx x.name=q at *
   generalize y.ment x.name=p at *
   replace F:Blk u1 b1 [.int .u8 k,.int .i64 n,str s,.slice (some ⟨kb,ko,none⟩) 2 c]:=F
   focus
    refine cS (C1 Pf (C1 (Pl F) (C1 Pi (C1 Pf (C1 (Pw L) (C1 Pa (cN (C1 Pf (C1 (Pl F) (C1 Pi (Ce [_,_,_,_] Ad rfl rfl rfl L rfl rfl rfl ?_)))))))))));refine C1 Mv ?_;refine cC rfl (HI.out _ _ _ _ Ae) ?_;rintro _ eb ⟨⟨⟩,bs⟩;have ec:=bs.size;revert X L O V Y F;refine eE bs ?_;intro X L O V Y F;clear bs;refine C1 Mv ?_;refine SF rfl rfl rfl (fun b9=>?_) (fun b9=>?_);refine Bm rfl rfl rfl (Nn Ae) rfl ?_;refine Bm rfl rfl rfl (Nn Ae) rfl ?_;refine Bm rfl rfl rfl (Nn Ae) rfl ?_;refine Bm rfl rfl rfl (Nn Ae) rfl ?_;refine Bm rfl rfl rfl (Nn Ae) rfl ?_;refine Bm rfl rfl rfl (Nn Ae) rfl ?_;refine C1 (B6 rfl rfl Ae) ?_;refine cT (Cb rfl (cS (C1 Mv (C1 Pa (C1 Pa (cT (AN (AH (Ao (Be rfl rfl rfl ?_))))))))));rotate_left;refine Bh rfl rfl rfl (No Ae) ?_;refine C1 Pf ?_;refine Bh rfl rfl rfl (No Ae) ?_;refine C1 (Pl F) ?_;refine Bh rfl rfl rfl (No Ae) ?_;refine C1 Pi ?_;refine Bh rfl rfl rfl (No Ae) ?_;refine C1 (W7 V) ?_;refine Bh rfl rfl rfl (No Ae) ?_;refine C1 Mv ?_;refine Bh rfl rfl rfl (No Ae) ?_;refine cC rfl (HM.out _ _ _ _ Ae) ?_;rintro _ ed ⟨⟨⟩,bt⟩;have ee:=bt.size;revert X L O V Y F
    refine eE bt ?_;intro X L O V Y F;clear bt;refine C1 (B0 rfl rfl Ae) ?_;refine cT ?_;refine Ge rfl (fun ca=>?_) (fun ca=>?_);refine cS (C1 Mv (C1 Pa (C1 Pa (cT (AN (AH (Ao (Be rfl rfl rfl ?_))))))));rotate_left;refine Am (Af (Ag (cS (C1 Pa (C1 Pa (cT (AN (Be rfl rfl rfl ?_))))))));rotate_left
   all_goals exact ⟨by simp [*],X⟩
 focus
  refine cS (C1 V1 (C1 Pa (cT ?_)));refine Ay rfl (fun cb=>?_) (fun cb=>?_);rotate_left;refine Ai ?_;rotate_left
 . have hk:k=43:=by assumption
   subst hk;obtain ⟨x,y,rfl,hx,hy⟩:=UM (HT.out Ab Ab);obtain ⟨kb,ko,rfl,kS,G⟩:=BA M AR;obtain ⟨xa,xc,L,O⟩:=G 0 x rfl;obtain ⟨ya,yc,V,Y⟩:=G 1 y rfl
   have he:Fc (.mk 43 n s [x,y])=EO (DL [x,y] [x.name,y.name]):=by rw [FG,As Ab,As Ab,AG Ab];rfl
   have HA:=bU (O5 [x,y] [x.name,y.name] Ab (fun t ht=>by simp at ht;rcases ht with rfl|rfl<;>exact Gr Ae) AR);rw [he];clear G he;replace F:Blk u1 b1 [.int .u8 43,.int .i64 n,str s,.slice (some ⟨kb,ko,none⟩) 2 c]:=F
   focus
    refine Ai ?_;refine Ar (fun wz=>Ext u1 wz) 11 (.pure 0 (.pure 1 (.pure 2 (.pure 3 (.pure 4 (.pure 5 (.pure 6 (.pure 7 (.fork 8 (.fork 9 (.fork 10 .tail .none) .none) (.fork 9 (.fork 8 (.fork 10 .tail .none) .none) .none)))))))))) mixed A9 (Aa (Al (Aa Ah))) ?_;intro cc a6 _;have N:(fun wz=>Ext u1 wz) cc:=a6;simp only at N;have af:=M;have Z:=L;have ag:=O;have au:=V;have ba:=Y;have U:=F;have ef:=a6.size;revert X M L O V Y F;refine eE a6 ?_;intro X M L O V Y F;clear a6;refine ⟨N,?_⟩;refine Tq rfl Pf (Tq rfl (Db U) (Tq rfl Pi (Tq rfl (DR [_,_,_,_] Ad rfl rfl rfl (fun wz hz=>(fL Z hz)) rfl rfl) (Tq rfl Pf (Tq rfl (Db U) (Tq rfl Pi (Tq rfl (Cl Ad rfl rfl rfl (fun wz hz=>(fL au hz)) rfl) ?_)))))));refine Ax rfl (Bt CY rfl) rfl ?_ aFh ?krf5;rintro _ eg ⟨eh,rfl,av⟩;have aw:=av.blk;dsimp only at aw;have bb:=av.ext;have cy:=av.pos;have cz:=av.size;clear av;revert N X M L O V Y F;refine eE bb ?_;intro N X M L O V Y F;clear bb;refine ⟨N,?_⟩;refine Ax rfl (Bt CY rfl) rfl ?_ aFh Aw;rintro _ c0 ⟨c1,rfl,ah⟩;have ai:=ah.blk;dsimp only at ai;have bc:=ah.ext;have c2:=ah.pos;have c3:=ah.size;clear ah;revert aw N X M L O V Y F
    refine eE bc ?_;intro aw N X M L O V Y F;clear bc;refine ⟨N,?_⟩;refine DS [_,_,_,_] [_,_,_,_] rfl Ad rfl rfl rfl rfl rfl rfl aw rfl rfl ?_ Aw;intro c4 aq;have ac:=aq.blk;have bd:=aq.fr;have c5:=aq.size;clear aq aw;revert ai N X M L O V Y F;refine eF bd ?_;intro ai N X M L O V Y F;clear bd;refine ⟨N,?_⟩;clear af Z ag au ba U N;refine At rfl ?_;refine eS [_,_,_,_] ai ?_;intro c6 aj be c7;clear ai;revert ac X M L O V Y F;refine eF be ?_;intro ac X M L O V Y F;clear be;refine cN (C1 Pf (C1 (Pl F) (C1 Pf (C1 (Pl ac) (C1 Pf (C1 (Pl aj) ?_))))));refine AC (Dn [_,_] Ad CY rfl rfl rfl rfl rfl rfl rfl rfl rfl) rfl ?_ aFh;rintro _ c9 ⟨da,rfl,ak,b0⟩;clear b0;have bf:=ak.blk;have bg:=ak.ext;have db:=ak.pos;have dc:=ak.size;clear ak;revert aj ac X M L O V Y F;refine eE bg ?_;intro aj ac X M L O V Y F;clear bg;refine cC rfl (HA.out _ _ _ _ _ _ _ Ae (fN Ae)) ?_;rintro _ dd ⟨⟨⟩,ax⟩;have de:=ax.size;revert bf aj ac X M L O V Y F;refine eE ax ?_;intro bf aj ac X M L O V Y F;clear ax;refine C1 Px (C1 Px (C1 Pa (C1 Pa (cT (AN (AH (Ao (Be rfl rfl rfl ?_))))))));rotate_left;refine Ax rfl (Bt CY rfl) rfl ?_ aFh Aw
    rintro _ df ⟨dg,rfl,al⟩;have ad:=al.blk;dsimp only at ad;have bh:=al.ext;have dh:=al.pos;have di:=al.size;clear al;revert N X M L O V Y F;refine eE bh ?_;intro N X M L O V Y F;clear bh;refine ⟨N,?_⟩;refine Ax rfl (Bt CY rfl) rfl ?_ aFh Aw;rintro _ dk ⟨dl,rfl,am⟩;have ay:=am.blk;dsimp only at ay;have bi:=am.ext;have dm:=am.pos;have dn:=am.size;clear am;revert ad N X M L O V Y F;refine eE bi ?_;intro ad N X M L O V Y F;clear bi;refine ⟨N,?_⟩;refine DS [_,_,_,_] [_,_,_,_] rfl Ad rfl rfl rfl rfl rfl rfl ay rfl rfl ?_ Aw;intro dp ar;have ae:=ar.blk;have bj:=ar.fr;have dq:=ar.size;clear ar ay;revert ad N X M L O V Y F;refine eF bj ?_;intro ad N X M L O V Y F;clear bj;refine ⟨N,?_⟩;clear af Z ag au ba U N;refine At rfl ?_;refine eS [_,_,_,_] ad ?_;intro dr an bk ds;clear ad;revert ae X M L O V Y F;refine eF bk ?_;intro ae X M L O V Y F;clear bk;refine cN (C1 Pf (C1 (Pl F) (C1 Pf (C1 (Pl ae) (C1 Pf (C1 (Pl an) ?_))))));refine AC (Dn [_,_] Ad CY rfl rfl rfl rfl rfl rfl rfl rfl rfl) rfl ?_ aFh;rintro _ dt ⟨du,rfl,ao,b2⟩;clear b2;have bl:=ao.blk;have bm:=ao.ext;have dv:=ao.pos;have dw:=ao.size
    clear ao;revert an ae X M L O V Y F;refine eE bm ?_;intro an ae X M L O V Y F;clear bm;refine cC rfl (HA.out _ _ _ _ _ _ _ Ae (fN Ae)) ?_;rintro _ dx ⟨⟨⟩,az⟩;have dy:=az.size;revert bl an ae X M L O V Y F;refine eE az ?_;intro bl an ae X M L O V Y F;clear az;refine C1 Px (C1 Px (C1 Pa (C1 Pa (cT (AN (AH (Ao (Be rfl rfl rfl ?_))))))));rotate_left
   all_goals exact ⟨rfl,X⟩
 refine DY (ι:=Unit) (fun _=>[(1,.pointer (some ⟨b1,0,none⟩)),(10,.int .u8 k),(62,.bool (decide (44<=k/\k<=45)))]) (fun _ w'=>w'=u1) ?_ ?_
 . focus
    refine cS (C1 V1 (C1 Pa (cT ?_)));refine Ay rfl (fun cd=>?_) (fun cd=>?_);refine Am ?_;rotate_left;refine Aj (C1 V1 (C1 Pa (Ak ?_)));rotate_left
   all_goals exact B8 () (AQ rfl (AQ rfl (Bx rfl (congrArg Value.bool (decide_eq_decide.2 Ab)) Cy))) rfl
 rintro-u2 h;subst h
 focus
  refine Ay rfl (fun ce=>?_) (fun ce=>?_);rotate_left;refine Ai ?_;rotate_left
 . obtain ⟨x,rfl,hx⟩:=Tg (HT.out Ab Ab) Ab;obtain ⟨kb,ko,rfl,kS,G⟩:=BA M AR;obtain ⟨xa,xc,L,O⟩:=G 0 x rfl
   have he:Fc (.mk k n s [x])=EO (DL [x] [x.name,s]):=by rw [FG,As Ab,As Ab,As Ab,AG Ab];rfl
   have HA:=bU (O5 [x] [x.name,s] Ab (fun t ht=>by simp at ht;subst ht;exact Gr hx) AR);rw [he];clear G he;replace F:Blk u2 b1 [.int .u8 k,.int .i64 n,str s,.slice (some ⟨kb,ko,none⟩) 1 c]:=F
   focus
    refine Ai ?_;refine Ar (fun wz=>Ext u2 wz) 13 (.pure 0 (.pure 1 (.pure 2 (.pure 3 (.pure 4 (.pure 5 (.pure 6 (.pure 7 (.pure 8 (.fork 9 (.fork 10 (.pure 11 (.pure 12 .tail)) .none) .none)))))))))) mixed A9 (Aa (Al (Aa Ah))) ?_;intro cf a7 _;have aa:(fun wz=>Ext u2 wz) cf:=a7;simp only at aa;have af:=M;have Z:=L;have ag:=O;have U:=F;have ei:=a7.size;revert X M L O F;refine eE a7 ?_;intro X M L O F;clear a7;refine ⟨aa,?_⟩;refine Tq rfl Pf (Tq rfl (Db U) (Tq rfl Pf (Tq rfl (Db U) (Tq rfl Pi (Tq rfl Pf (Tq rfl (Dr Z) (Tq rfl Pf (Tq rfl (Db U) ?_))))))));refine Ax rfl (Dn [_,_] Ad CY rfl rfl rfl rfl rfl rfl rfl rfl rfl) rfl ?_ aFh Aw;rintro _ ej ⟨ek,rfl,a0,cg⟩;clear cg;have bn:=a0.blk;have bo:=a0.ext;have dz:=a0.pos;have d0:=a0.size;clear a0;revert aa X M L O F;refine eE bo ?_;intro aa X M L O F;clear bo;refine ⟨aa,?_⟩;refine Ax rfl (AU A9 rfl (HA.out _ _ _ _ _ _ _ Ae (fN Ae)) (fun _ _ h=>⟨_,h.1⟩)) rfl ?_ aFh Aw;rintro _ d1 ⟨⟨⟩,a1⟩;have d2:=a1.size;revert bn aa X M L O F;refine eE a1 ?_;intro bn aa X M L O F;clear a1;refine ⟨aa,?_⟩;refine Tq rfl Px (Tq rfl Px ?_);clear af Z ag U aa;refine At rfl (C1 Pa (C1 Pa (cT (AN (AH (Ao (Be rfl rfl rfl ?_)))))))
    rotate_left
   all_goals exact ⟨rfl,X⟩
 refine DY (ι:=Unit) (fun _=>[(1,.pointer (some ⟨b1,0,none⟩)),(10,.int .u8 k),(78,.bool (decide (46<=k/\k<=49)))]) (fun _ w'=>w'=u2) ?_ ?_
 . focus
    refine cS (C1 V1 (C1 Pa (cT ?_)));refine Ay rfl (fun ch=>?_) (fun ch=>?_);refine Am ?_;rotate_left;refine cS (C1 V1 (C1 Pa (cT ?_)));refine Ay rfl (fun ci=>?_) (fun ci=>?_);refine Am ?_;rotate_left;refine cS (C1 V1 (C1 Pa (cT ?_)));refine Ay rfl (fun cj=>?_) (fun cj=>?_);refine Am ?_;rotate_left;refine Aj (C1 V1 (C1 Pa (Ak ?_)));rotate_left
   all_goals exact B8 () (AQ rfl (AQ rfl (Bx rfl (congrArg Value.bool (decide_eq_decide.2 Ab)) Cy))) rfl
 rintro-u3 h;subst h
 focus
  refine Ay rfl (fun ck=>?_) (fun ck=>?_);rotate_left;refine Ai ?_;rotate_left
 . obtain ⟨x,rfl,hx⟩:=Tg (HT.out Ab Ab) Ab;obtain ⟨kb,ko,rfl,kS,G⟩:=BA M AR;obtain ⟨xa,xc,L,O⟩:=G 0 x rfl
   have he:Fc (.mk k n s [x])=EO (DL [x] [x.name]):=by rw [FG,As Ab,As Ab,As Ab,As Ab,AG Ab];rfl
   have HA:=bU (O5 [x] [x.name] Ab (fun t ht=>by simp at ht;subst ht;exact Gr hx) AR);rw [he];clear G he;replace F:Blk u3 b1 [.int .u8 k,.int .i64 n,str s,.slice (some ⟨kb,ko,none⟩) 1 c]:=F
   focus
    refine Ai ?_;refine Ar (fun wz=>Ext u3 wz) 11 (.pure 0 (.pure 1 (.pure 2 (.pure 3 (.pure 4 (.pure 5 (.pure 6 (.fork 7 (.fork 8 (.pure 9 (.pure 10 .tail)) .none) .none)))))))) mixed A9 (Aa (Al (Aa Ah))) ?_;intro cl a8 _;have ab:(fun wz=>Ext u3 wz) cl:=a8;simp only at ab;have af:=M;have Z:=L;have ag:=O;have U:=F;have el:=a8.size;revert X M L O F;refine eE a8 ?_;intro X M L O F;clear a8;refine ⟨ab,?_⟩;refine Tq rfl Pf (Tq rfl (Db U) (Tq rfl Pf (Tq rfl (Db U) (Tq rfl Pi (Tq rfl Pf (Tq rfl (Dr Z) ?_))))));refine Ax rfl (Dn [_] Ad CY rfl rfl rfl rfl rfl rfl rfl rfl rfl) rfl ?_ aFh Aw;rintro _ em ⟨en,rfl,a2,cm⟩;clear cm;have bp:=a2.blk;have bq:=a2.ext;have d3:=a2.pos;have d4:=a2.size;clear a2;revert ab X M L O F;refine eE bq ?_;intro ab X M L O F;clear bq;refine ⟨ab,?_⟩;refine Ax rfl (AU A9 rfl (HA.out _ _ _ _ _ _ _ Ae (fN Ae)) (fun _ _ h=>⟨_,h.1⟩)) rfl ?_ aFh Aw;rintro _ d5 ⟨⟨⟩,a3⟩;have d6:=a3.size;revert bp ab X M L O F;refine eE a3 ?_;intro bp ab X M L O F;clear a3;refine ⟨ab,?_⟩;refine Tq rfl Px (Tq rfl Px ?_);clear af Z ag U ab;refine At rfl (C1 Pa (C1 Pa (cT (AN (AH (Ao (Be rfl rfl rfl ?_)))))))
    rotate_left
   all_goals exact ⟨rfl,X⟩
 refine DY (ι:=Unit) (fun _=>[(1,.pointer (some ⟨b1,0,none⟩)),(10,.int .u8 k),(94,.bool (decide (50<=k/\k<=51)))]) (fun _ w'=>w'=u3) ?_ ?_
 . focus
    refine cS (C1 V1 (C1 Pa (cT ?_)));refine Ay rfl (fun cn=>?_) (fun cn=>?_);refine Am ?_;rotate_left;refine Aj (C1 V1 (C1 Pa (Ak ?_)));rotate_left
   all_goals exact B8 () (AQ rfl (AQ rfl (Bx rfl (congrArg Value.bool (decide_eq_decide.2 Ab)) Cy))) rfl
 rintro-u4 h;subst h
 focus
  refine Ay rfl (fun co=>?_) (fun co=>?_);rotate_left;rotate_left
 . have he:Fc (.mk k n s l)=EO (Ld [] l):=by rw [FG,As Ab,As Ab,As Ab,As Ab,As Ab,AG Ab]
   rw [he];clear he
   refine cS (C1 Pf (C1 (Pl F) (C1 Pz (C1 Mv (cT ?_)))))
   refine Av ?_;refine A1 (ι:=Nat) (fun i=>[(1,.pointer (some ⟨b1,0,none⟩)),(98,.slice a l.length c),(99,.int .i64 l.length),(100,.int .i64 i)])
    (fun i w'=>i<=l.length/\Blk w' b1 [.int .u8 k,.int .i64 n,str s,.slice a l.length c]/\rowSits (· < w.heap.size) w' l a/\Ext w w'/\Ld [] l=Ld (l.take i) (l.drop i))
    (fun i=>l.length-i) 0 sB ⟨cQ _,F,M,X,AR⟩ ?_
   clear F M X z7;rintro i v1 ⟨hi,F,M,X,hd⟩;have eo:=F.lt;have ep:=X.size
   by_cases a9:i<l.length
   . obtain ⟨kb,ko,rfl,kS,G⟩:=BA M (by intro e;subst e;simp at a9);obtain ⟨xa,xc,L,O⟩:=G i l[i] (bT a9);rw [dH a9,Ld] at hd;have cp:l.take i++[l[i]]=l.take (i+1):=(dG a9).symm
     have cq:(l.take i).length=i:=by simp;omega
     have hm:(i:Int)=(i:Int):=rfl;have ap:=Kc l i _ M;have HC:=bU (QR (l.take i) Ab l[i]);rw [cq] at HC;clear G;rw [cp] at hd
     generalize l[i]=x at *
     generalize (l.take i).any (fun t=>decide (t.name=x.name))=q at *
     focus
      refine cS (C1 V3 (cT (Ai (Vf (Am (Ag (Ai (Av (cS (C1 Mv (C1 Pi ?_)))))))))));refine C1 (W7 L) ?_;refine eA [_,_,_,_] ?_;intro er es b3 b4 et eu;revert X F M ap L O;refine eE b4 ?_;intro X F M ap L O;clear b4;refine C1 Pa ?_;refine eS [_,_,_,_] b3 ?_;intro ew a4 br d7;clear b3;revert X F M ap L O;refine eF br ?_;intro X F M ap L O;clear br;refine cN (C1 Pf (C1 (Pl F) (C1 Mv ?_)));refine C1 (Ei Ad rfl rfl rfl rfl hm Ab) ?_;refine C1 (D9 rfl) ?_;refine cC rfl (HC.out _ _ _ _ _ _ _ ap Ae) ?_;rintro _ d8 ⟨⟨⟩,a5⟩;have d9:=a5.size;revert a4 X F M ap L O;refine eE a5 ?_;intro a4 X F M ap L O;clear a5;refine cT ?_;refine Ge rfl (fun b5=>?_) (fun b5=>?_);refine cS (C1 Pf (C1 (Pl a4) (C1 Pa (C1 Pa (cT (AN (AH (Ao (Ao (AH (AH ?_)))))))))));refine Ao (Be rfl rfl rfl ?_);rotate_left;refine Am (Af (Ag (Aj (C1 V7 (C1 Mv (Ak ?_))))));rotate_left
     . rw [AG Ae] at hd
       exact ⟨by rw [hd];rfl,X⟩
     . rw [As (by simp [*])] at hd
       exact AI (i+1) sB ⟨Ab,F,M,X,hd⟩ Ab
   . obtain rfl:i=l.length:=by omega
     rw [List.drop_length,Ld] at hd;rw [hd]
     refine cS (C1 V3 (cT (Ai (Ds (Eg (A8 (A8 (BQ (Af (Ag (cS ?_)))))))))));refine C1 Pa (C1 Pa (cT (AN (Be rfl rfl rfl ?_))))
     exact ⟨rfl,X⟩
 focus
  refine cS (C1 V1 (C1 Pa (cT ?_)));refine Ay rfl (fun cr=>?_) (fun cr=>?_);rotate_left;rotate_left
 . obtain ⟨x,y,z,u,rfl,hx,hu⟩:=K2 (HT.out Ab Ab) Ab;obtain ⟨kb,ko,rfl,kS,G⟩:=BA M AR;obtain ⟨xa,xc,L,O⟩:=G 0 x rfl;obtain ⟨ua,uc,ru,su⟩:=G 3 u rfl
   have he:Fc (.mk k n s [x,y,z,u])=if (u.const.2 && !x.const.2)=true then ([],10) else ([],0):=by rw [FG,As Ab,As Ab,As Ab,As Ab,As Ab,As Ab,AG Ab];rfl
   have HX:=bU (Jk x (by have:=HZ.out x AR;omega) (HF.out x AR));have HU:=bU (Jk u (by have:=HZ.out u AR;omega) (HF.out u AR));rw [he];clear M G he
   generalize x.const.2=q at *
   generalize u.const.2=p at *
   replace F:Blk u4 b1 [.int .u8 k,.int .i64 n,str s,.slice (some ⟨kb,ko,none⟩) 4 c]:=F
   focus
    refine cS (C1 Pf (C1 (Pl F) (C1 Pi (C1 (W7 ru) (cC rfl (HU.out _ _ _ _ su) ?_)))));rintro _ ex ⟨⟨⟩,bu⟩;have ey:=bu.size;revert X L O ru su F;refine eE bu ?_;intro X L O ru su F;clear bu;refine C1 Mv ?_;refine SF rfl rfl rfl (fun ct=>?_) (fun ct=>?_);refine Bh rfl rfl rfl (Nl Ae) ?_;refine C1 Pf ?_;refine Bh rfl rfl rfl (Nl Ae) ?_;refine C1 (Pl F) ?_;refine Bh rfl rfl rfl (Nl Ae) ?_;refine C1 Pi ?_;refine Bh rfl rfl rfl (Nl Ae) ?_;refine Ce [_,_,_,_] Ad rfl rfl rfl L rfl rfl rfl ?_;refine Bh rfl rfl rfl (Nl Ae) ?_;refine cC rfl (HX.out _ _ _ _ O) ?_;rintro _ ez ⟨⟨⟩,bv⟩;have e0:=bv.size;revert X L O ru su F;refine eE bv ?_;intro X L O ru su F;clear bv;refine Bh rfl rfl rfl (Nl Ae) ?_;refine C1 Pt ?_;refine C1 (B6 rfl rfl Ae) ?_;refine cT ?_;refine Hx rfl (fun cu=>?_) (fun cu=>?_);refine cS (C1 Pa (C1 Pa (cT (AN (AH (Ao (Be rfl rfl rfl ?_)))))));rotate_left;refine Am (Af (Ag (cS (C1 Pa (C1 Pa (cT (AN (Be rfl rfl rfl ?_))))))));rotate_left;refine Bm rfl rfl rfl (Nm Ae) rfl ?_;refine Bm rfl rfl rfl (Nm Ae) rfl ?_;refine Bm rfl rfl rfl (Nm Ae) rfl ?_;refine Bm rfl rfl rfl (Nm Ae) rfl ?_;refine Bm rfl rfl rfl (Nm Ae) rfl ?_
    refine Bm rfl rfl rfl (Nm Ae) rfl ?_;refine C1 (B0 rfl rfl Ae) ?_;refine cT (BD rfl (Am (Af (Ag (cS (C1 Pa (C1 Pa (cT (AN (Be rfl rfl rfl ?_))))))))));rotate_left
   all_goals exact ⟨by simp [*],X⟩
 focus
  refine cS (C1 V1 (C1 Pa (cT ?_)));refine Ay rfl (fun cv=>?_) (fun cv=>?_);rotate_left;refine Am (Af (Ag (cS (C1 Pa (C1 Pa (cT (AN (Be rfl rfl rfl ?_))))))));rotate_left
 . obtain ⟨x,y,z,u,rfl,hx,hu⟩:=K2 (HT.out Ab Ab) Ab;obtain ⟨kb,ko,rfl,kS,G⟩:=BA M AR;obtain ⟨xa,xc,L,O⟩:=G 0 x rfl
   have he:Fc (.mk k n s [x,y,z,u])=if x.const.2=true then ([],10) else ([],0):=by rw [FG,As Ab,As Ab,As Ab,As Ab,As Ab,As Ab,As Ab,AG Ab];rfl
   have HX:=bU (Jk x (by have:=HZ.out x AR;omega) (HF.out x AR));rw [he];clear M G he
   generalize x.const.2=q at *
   replace F:Blk u4 b1 [.int .u8 k,.int .i64 n,str s,.slice (some ⟨kb,ko,none⟩) 4 c]:=F
   focus
    refine cS (C1 Pf (C1 (Pl F) (C1 Pi (Ce [_,_,_,_] Ad rfl rfl rfl L rfl rfl rfl (cC rfl (HX.out _ _ _ _ O) ?_)))));rintro _ e1 ⟨⟨⟩,bw⟩;have e2:=bw.size;revert X L O F;refine eE bw ?_;intro X L O F;clear bw;refine cT ?_;refine Ge rfl (fun cw=>?_) (fun cw=>?_);refine cS (C1 Pa (C1 Pa (cT (AN (AH (Ao (Be rfl rfl rfl ?_)))))));rotate_left;refine Am (Af (Ag (cS (C1 Pa (C1 Pa (cT (AN (Be rfl rfl rfl ?_))))))));rotate_left
   all_goals exact ⟨by simp [*],X⟩
 . have he:Fc (.mk k n s l)=([],0):=by rw [FG,As Ab,As Ab,As Ab,As Ab,As Ab,As Ab,As Ab,As Ab]
   rw [he]
   exact ⟨rfl,X⟩
def Io {x:Nd} : ∀ {l:List Nd},x∈BX l -> ∃t∈l,x∈t.walk
 | [],h=>by simp [BX] at h
 | t::r,h=>by
  simp only [BX,List.mem_append] at h;rcases h with h|h
  . exact ⟨t,AR,h⟩
  . obtain ⟨u,F,G⟩:=Io h;exact ⟨u,by simp [F],G⟩
def UN {k n:Int} {s:lB} {l:List Nd} (h:(Nd.mk k n s l).good) : ∀x∈l,x.good:=by
 intro x F;rcases h with h|h|h
 . cases BT h with
   | call _ _ _ N=>exact bX (bX (G0 (List.all_eq_true.1 N x F)))
   | upd _ G L=>simp only [dQ,eP,or_false] at F;rcases F with rfl|rfl<;>first|exact bX (bX (A0 Ae))|exact bX (bX Ae)
   | swap G L=>simp only [dQ,eP,or_false] at F;rcases F with rfl|rfl<;>exact bX (bX (A0 Ae))
   | stack _ _ G=>simp only [dQ,eP,or_false] at F;rw [F];exact bX (bX (A0 G))
   | tape _ G=>simp only [dQ,eP,or_false] at F;rw [F];exact bX (bX (A0 G))
   | branch _ G L O U=>simp only [dQ,eP,or_false] at F;rcases F with rfl|rfl|rfl|rfl<;>first|exact bX (bX Ae)|exact bX (bW Ae)
   | local_ _ G L O=>simp only [dQ,eP,or_false] at F;rcases F with rfl|rfl|rfl<;>first|exact bX (bX Ae)|exact bX (bW Ae)
   | lstack _ G=>simp only [dQ,eP,or_false] at F;rw [F];exact bX (bW G)
 . obtain ⟨e,M⟩:=DT h;simp only [gB] at M;exact bW (rowStmt_iff.1 M x F)
 . exact bX (bX ((II h).2.1 x F))
def UO (N:Nat) : ∀t:Nd,t.size<N->t.good->t.wf -> ∀x∈t.walk,x.good/\x.wf/\x.size<=t.size:=by
 induction N with
 | zero=>intro t h;omega
 | succ N U=>
  rintro ⟨k,n,s,l⟩ V O G x F;rw [Nd.walk,dQ] at F;rcases F with rfl|F
  . exact ⟨O,G,cH _⟩
  . obtain ⟨t,L,M⟩:=Io F;have Z:=Cz L;simp only [fF] at V ⊢;obtain ⟨X,Y,h3⟩:=U t Ab (UN O t L) (BF (by simp only [Nd.wf] at G;exact G.2.2.2.2.2.2) t L) x M;exact ⟨X,Y,Ab⟩
def MA {t:Nd} (h:t.isBlock=true) (F:t.wf) : ∀x∈t.walk,x.good/\x.wf/\x.size<=t.size:=UO (t.size+1) t Ab (bX (bW h)) F
def QT {k:Int} {s:lB} {i:Nat} {v:List VD} (h:k≠54) (F:k≠55):Cr k s i v=v:=by
 unfold Cr;rw [As (fun e=>h e.1),As (fun e=>F e.1)]
def GQ (ps:List PD) (v:List VD):List Nd->Nat
 | []=>0
 | t::r=>t.flt ps v+GQ ps v r
def N4 {ps:List PD} {v:List VD} {k:Int} {s:lB} (h:k≠54) (F:k≠55) : ∀(l:List Nd) (i:Nat),CP ps v k s i l=GQ ps v l
 | [],_=>by rw [CP,GQ]
 | t::r,i=>by rw [CP,GQ,QT h F,N4 h F r]
def QU {ps:List PD} {v:List VD} : ∀l m:List Nd,GQ ps v (l++m)=GQ ps v l+GQ ps v m
 | [],m=>by simp [GQ]
 | t::r,m=>by rw [List.cons_append,GQ,GQ,QU r m];omega
def QV {ps:List PD} {v:List VD} : ∀l:List Nd,GQ ps v l.reverse=GQ ps v l
 | []=>rfl
 | t::r=>by rw [List.reverse_cons,QU,QV r];simp only [GQ];omega
def Cc {ps:List PD} {v:List VD} {k n:Int} {s:lB} {l:List Nd} (h:k≠54) (F:k≠55) (G:k≠50) (L:k≠51):(Nd.mk k n s l).flt ps v=Ou (B7 ps v k s l.length)+GQ ps v l:=by
 rw [Nd.flt,As Ab,N4 h F]
def Dp {ps:List PD} {v:List VD} {k:Int} {s:lB} {m:Nat} (h:6<=k) (L : ¬(k=44\/k=45)) (F : ¬(k=54\/k=55)) (G : ¬(k=50\/k=51)):B7 ps v k s m=0:=by
 unfold B7;rw [As Ab,As Ab,As Ab,As F,As G]
def YA (ps:List PD) (q:Bool) (N:Nat) : ∀(t:Nd) (v:List VD),t.size<N->t.isStmt=true\/t.isBlock=true->(t.inv q).flt ps v=t.flt ps v:=by
 induction N with
 | zero=>intro t v h;omega
 | succ N O=>
  intro t v U h;by_cases hs:t.isStmt=true
  . cases BT hs with
    | @upd k x y G F M=>
     have L:=LG G;rw [Lk q G (A0 F) M,Cc Ab Ab Ab Ab,Cc Ab Ab Ab Ab,Dp Ab Ab Ab Ab,Dp Ab Ab Ab Ab]
    | @swap x y F M=>rw [JF q (A0 F) (A0 M)]
    | @stack k s x G Y F=>
     have L:=I5 G;rw [Gk q Ab (A0 F),Cc Ab Ab Ab Ab,Cc Ab Ab Ab Ab];have : ∀k:Int,k=44\/k=45->B7 ps v k s 1=EC v s 3:=fun k h=>by
      unfold B7;rw [As Ab,As Ab,AG Ab]
     simp only [cF,dD,eJ];rw [this _ L,this _ G]
    | @tape k x G F=>
     have L:=Kq G;rw [Gk q Ab (A0 F),Cc Ab Ab Ab Ab,Cc Ab Ab Ab Ab,Dp Ab Ab Ab Ab,Dp Ab Ab Ab Ab]
    | @call k s l G Y hl ha=>
     have L:(if q then k else Bd k)=50\/(if q then k else Bd k)=51:=by
      cases q
      . exact Nv G
      . exact G
     have : ∀k:Int,k=50\/k=51->B7 ps v k s l.length=Nr ps s l.length:=fun k h=>by
      unfold B7;rw [As Ab,As Ab,As Ab,As Ab,AG h]
     rw [JG q G ha,Nd.flt,Nd.flt,AG L,AG G,this _ L,this _ G]
    | @branch k x y z u G F M V hu=>
     simp only [fF,Aq] at U;have Z:=O y v Ab (bX M);have iz:=O z v Ab (bX V);rw [G2 q G F M V hu,Cc Ab Ab Ab Ab,Cc Ab Ab Ab Ab,Dp Ab Ab Ab Ab,Dp Ab Ab Ab Ab];simp only [GQ,Z,iz];omega
    | @local_ s x y z Y F M V=>
     simp only [fF,Aq] at U;have Z:=O y (v++[⟨s,1,0⟩]) Ab (bX M);rw [Ix q F M V,Nd.flt,Nd.flt,As Ab,As Ab];have X : ∀i:Nat,i≠1->Cr 54 s i v=v:=fun i h=>by unfold Cr;rw [As (fun e=>h e.2),As (fun e=>absurd e.1 AY)]
     have e1:Cr 54 s 1 v=v++[⟨s,1,0⟩]:=by unfold Cr;rw [AG ⟨rfl,rfl⟩]
     simp only [CP,eJ,X 0 AY,e1,X (1+1) AY,Z,cF,dD];omega
    | @lstack s x Y F=>
     simp only [fF,Aq] at U;have ix:=O x (v++[⟨s,3,0⟩]) Ab (bX F);rw [G3 q F,Nd.flt,Nd.flt,As Ab,As Ab];have X:Cr 55 s 0 v=v++[⟨s,3,0⟩]:=by unfold Cr;rw [As (fun e=>absurd e.1 AY),AG ⟨rfl,rfl⟩]
     simp only [CP,X,ix,cF,dD]
  . have hb:t.isBlock=true:=h.resolve_left hs;obtain ⟨e,hr⟩:=DT hb;obtain ⟨k,n,s,l⟩:=t;simp only [gB,Nd.mk.injEq,and_true] at e;obtain ⟨rfl,rfl,rfl⟩:=e;simp only [gB] at hr;simp only [fF] at U;have aa:=rowStmt_iff.1 hr;rw [Er,Cc Ab Ab Ab Ab,Cc Ab Ab Ab Ab,Dp Ab Ab Ab Ab,Dp Ab Ab Ab Ab,QV];have key : ∀r:List Nd,(∀t∈r,t∈l)->GQ ps v (B3 q r)=GQ ps v r:=by
     intro r
     induction r with
     | nil=>intro _;rfl
     | cons x r ab=>
      intro hm;have F:=hm x AR;simp only [B3,GQ];rw [O x v (by have:=Du F;omega) (bW (aa x F)),ab (fun t ht=>hm t (by simp [ht]))]
    rw [key l aFh]
def WB {g:PG} (q:Bool) (h:g.main.isStmt=true\/g.main.isBlock=true):PG.flt ⟨g.vars,g.procs,g.main.inv q⟩=g.flt:=by
 unfold PG.flt;simp only;rw [YA g.procs q (g.main.size+1) g.main g.vars Ab h]
def IJ {g:PG} {b:Bool} (F:g.wf) (h:g.ok=b) (S:nP) (G:oA) (vc:Nat) (L:oA) (N:Nat) (M:oA) (O:Nat) (w:wD) (U:g.sits S w G L M) :
 Calls prog 8 #[.agg (g.cells G vc L N M O).toArray] w fun e w'=>e = .returned (.bool b)/\Ext w w':=by
 have:=XY g S G vc L N M O w F U;rw [h] at this;exact this
def PG.sits.ltA {S:nP} {w:wD} {g:PG} {F G L:oA} (h:g.sits S w F G L):g.sits (· < w.heap.size) w F G L:=⟨h.vars.lt2.wide fun _ h=>h.2,h.procs.ltA,BZ _ _ h.main⟩
def Sq (f:Nd->Nd) (l:List PD) (j:Nat) (h:j<l.length):(l.take (j+1)).map (PD.map f)=(l.take j).map (PD.map f)++[(l[j]).map f]:=by
 rw [dG h,List.map_append];rfl
def MB (u:PG) (k:Int) (w:wD):Ending->wD->Prop:=fun e w'=> ∃va vc pa pc ma mc,e = .returned (.tuple #[.agg (u.cells va vc pa pc ma mc).toArray,.int .i64 k])/\u.sits (fun b=>w.heap.size<=b/\b<w'.heap.size) w' va pa ma/\PDsC (fun b=>w.heap.size<=b/\b<w'.heap.size) w' u.procs pa/\u.vars.length<=vc/\Ext w w'
def PDsC.lt2 {S:nP} {w:wD} {l:List PD} {a:oA} (h:PDsC S w l a):PDsC (fun b=>S b/\b<w.heap.size) w l a:=by
 rcases h with h|⟨b,o,L,M,G⟩
 . exact bW h
 . cases l with
   | nil=>exact bW rfl
   | cons v r=>
    obtain ⟨_,_,_,_,F,-,-⟩:=G 0 v rfl;refine bX ⟨b,o,L,⟨M,Co (Row.at0 F rfl)⟩,fun i x N=>?_⟩;obtain ⟨O,U,V,X,F,Y,Z,hc⟩:=G i x N;exact ⟨O,U,V,X,F,Y.lt2,GI _ _ Z,hc⟩
def WC {f:Nd->Nd} {q:Bool} {g:PG} {w w':wD} {F G L:oA} {vc N O M e:Nat} {xs:List PD} {U S2:nP} (Y:xs=g.procs.map (PD.map f)) (Z:VDs U w' g.vars F) (hc:g.vars.length<=vc) (ho:OwnL Ii w' M e (.slice G xs.length N) xs) (hm:(g.main.inv q).sits S2 w' L) (X:Ext w w') (k1 : ∀b,U b->w.heap.size<=b) (k2 : ∀b,S2 b->w.heap.size<=b) (kM:w.heap.size<=M) :
 MB (g.inv f q) 0 w (.returned (.tuple #[.agg #[.slice F g.vars.length vc,.slice G xs.length N,.int .u8 (g.main.inv q).kind,.int .i64 (g.main.inv q).num,str (g.main.inv q).name,.slice L (g.main.inv q).kids.length O],.int .i64 0])) w':=by
 subst Y;have V:=PDsC.wide (PDsC.lt2 (ho.pdsC (S:=fun b=>M<=b) (fun b hb=>hb))) (S':=fun b=>w.heap.size<=b/\b<w'.heap.size) fun b h=>⟨Ab,h.2⟩
 exact ⟨F,vc,G,N,L,O,rfl,⟨Z.lt2.wide fun b h=>⟨k1 b h.1,h.2⟩,V.pds,eX (GI _ _ hm) fun b h=>⟨k2 b h.1,h.2⟩⟩,V,hc,X⟩
def Sr (q:Bool) (al:Nat) (f:Nd->Nd) (b3:CO prog al=true) (g:PG) (a5:g.wf) (a6:g.ok=true) (hf:g.few) (hm:g.main.isBlock=true)
 (HB : ∀p∈g.procs,∀(S:nP) (a:oA) (c:Nat) (w:wD),p.body.sits S w a->Calls prog al #[p.body.val a c] w (CopyR (f p.body) w))
 (S:nP) (va:oA) (vc:Nat) (pa:oA) (pc:Nat) (ma:oA) (mc:Nat) (w:wD) (hs:g.sits S w va pa ma) :
 Calls prog 35 #[.agg (g.cells va vc pa pc ma mc).toArray,.func (.func al) #[] #[],.bool q] w (MB (g.inv f q) 0 w):=by
 have X:=eU w;obtain ⟨nv,np,b4,a7⟩:=hf;have HV:=bU (IJ a5 a6);have HI:=bU (L6 q g.main b4 (bX hm));have HC:=bU (N0 g.vars Ab);have HP:=bU HB;have HQ:=bU a7;clear a5 a6 hm HB a7;have hs:=hs.ltA;refine Ac func35 ntmps35 rfl rfl ?_;refine cS (eB [_,_,_,_,_,_] ?_);intro b1 w2 h4 x5 p6 z7;revert X hs;refine eE x5 ?_;intro X hs;refine eA [_,_,_,_,_,_] ?_;intro b8 w9 G b5 ef eg;revert h4 X hs;refine eE b5 ?_;intro h4 X hs;refine eK ?_;refine cC rfl (HV.out _ _ _ _ _ _ _ _ Ae) ?_;rintro _ a8 ⟨⟨⟩,b6⟩;revert G h4 X hs;refine eY b6 ?_;intro eh G h4 X hs;refine C1 Pt (cT (BD rfl (Am (Ag ?_))));refine IA (ι:=Nat×oA×Nat×oA×Nat) (fun x=>[(1,.func (.func al) #[] #[]),(3,.pointer (some ⟨b1,0,none⟩)),(6,.pointer (some ⟨b8,0,none⟩)),(8,.pointer (some ⟨x.1,0,none⟩))])
  (fun x w'=>Blk w' x.1 [.slice x.2.1 g.vars.length x.2.2.1,.slice none 0 0,.int .u8 (g.main.inv q).kind,.int .i64 (g.main.inv q).num,str (g.main.inv q).name,.slice x.2.2.2.1 (g.main.inv q).kids.length x.2.2.2.2]/\VDs (fun b=>b8<b/\b≠x.1/\b<w'.heap.size) w' g.vars x.2.1/\(g.main.inv q).sits (fun b=>b8<b/\b≠x.1/\b<w'.heap.size) w' x.2.2.2.1/\b8<x.1/\x.1<w'.heap.size/\g.vars.length<=x.2.2.1 /\
   Blk w' b1 [.slice va g.vars.length vc,.slice pa g.procs.length pc,.int .u8 g.main.kind,.int .i64 g.main.num,str g.main.name,.slice ma g.main.kids.length mc]/\Blk w' b8 [.slice none 0 0,.slice none 0 0,.int .u8 0,.int .i64 0,str [],.slice none 0 0]/\g.sits (· < w.heap.size) w' va pa ma/\Ext w w') ?_ ?_
 . clear HP HQ HV;have hv:=hs.vars;have M:=hs.main
   focus
    refine Ar (fun wz=>Ext a8 wz) 9 (.pure 0 (.pure 1 (.pure 3 (.pure 4 (.pure 5 (.fork 2 (.fork 6 (.pure 7 (.fork 8 .tail .none)) (.fork 8 (.fork 6 (.pure 7 .tail) .none) .none)) (.fork 8 (.fork 2 (.fork 6 (.pure 7 .tail) .none) .none) .none))))))) mixed A9 (Aa Ah) ?_;intro b7 a9 _;have F:(fun wz=>Ext a8 wz) b7:=a9;simp only at F;have b9:=G;have ba:=h4;have ck:=hs;have cl:=hv;have cb:=M;revert G h4 X hs hv M;refine eY a9 ?_;intro ei G h4 X hs hv M;refine ⟨F,?_⟩;refine eT ?_;refine Tq rfl (xL [_,_,_,_] (fun wz hz=>(fH ba hz))) (Tq rfl Mv ?_);refine Ax rfl (AU A9 rfl (HC.out _ _ _ _ Ae) (fun _ _ h=>h.ret)) rfl ?_ aFh ?kra5;rintro _ cm ⟨ej,⟨ek,⟨⟨⟩,⟨aa,⟨cc,cn⟩⟩⟩⟩⟩;revert F G h4 X hs hv M;refine eY cc ?_;intro co F G h4 X hs hv M;refine ⟨F,?_⟩;refine Ax rfl (AU A9 rfl (HI.out _ _ _ _ Ae) (fun _ _ h=>h.ret)) rfl ?_ aFh ?kra13;rintro _ cp ⟨cq,⟨cr,⟨⟨⟩,⟨ae,bb⟩⟩⟩⟩;revert aa F G h4 X hs hv M;refine eY bb ?_;intro ct aa F G h4 X hs hv M;refine ⟨F,?_⟩;refine Tq rfl (xB [_,_,_,_,_,_]) ?_;refine Ax rfl (Bt CY rfl) rfl ?_ aFh Aw;rintro _ cu ⟨cv,rfl,af⟩;have ar:=af.blk;dsimp only at ar;have bc:=af.ext;have cw:=af.pos;have cx:=af.size;revert ae aa F G h4 X hs hv M;refine eE bc ?_;intro ae aa F G h4 X hs hv M;refine ⟨F,?_⟩;refine At rfl (eS [_,_,_,_,_,_] ar ?_);intro cy cz bd c0;revert ae aa G h4 X hs hv M;refine eF bd ?_;intro ae aa G h4 X hs hv M;refine Ak ?_;rotate_left;refine Ax rfl (Bt CY rfl) rfl ?_ aFh Aw;rintro _ c1 ⟨c2,rfl,ag⟩;have ah:=ag.blk;dsimp only at ah;have be:=ag.ext;have c3:=ag.pos;have c4:=ag.size;revert aa F G h4 X hs hv M;refine eE be ?_;intro aa F G h4 X hs hv M;refine ⟨F,?_⟩;refine tC rfl rfl (HI.out _ _ _ _ Ae) ?_;rintro _ c5 ⟨c6,⟨c7,⟨⟨⟩,⟨au,bf⟩⟩⟩⟩;revert ah aa F G h4 X hs hv M;refine eY bf ?_;intro c8 ah aa F G h4 X hs hv M;refine ⟨F,?_⟩;refine Tq rfl (xB [_,_,_,_,_,_]) ?_;refine At rfl (eS [_,_,_,_,_,_] ah ?_);intro c9 da bg db;revert au aa G h4 X hs hv M;refine eF bg ?_
    intro au aa G h4 X hs hv M;refine Ak ?_;rotate_left;refine Ax rfl (Bt CY rfl) rfl ?_ aFh Aw;rintro _ dc ⟨dd,rfl,ai⟩;have ac:=ai.blk;dsimp only at ac;have bh:=ai.ext;have de:=ai.pos;have df:=ai.size;revert F G h4 X hs hv M;refine eE bh ?_;intro F G h4 X hs hv M;refine ⟨F,?_⟩;refine tC rfl rfl (HC.out _ _ _ _ Ae) ?_;rintro _ dg ⟨dh,⟨di,⟨⟨⟩,⟨aj,⟨bi,dk⟩⟩⟩⟩⟩;revert ac F G h4 X hs hv M;refine eY bi ?_;intro dl ac F G h4 X hs hv M;refine ⟨F,?_⟩;refine tC rfl rfl (HI.out _ _ _ _ Ae) ?_;rintro _ dm ⟨dn,⟨dp,⟨⟨⟩,⟨av,bj⟩⟩⟩⟩;revert aj ac F G h4 X hs hv M;refine eY bj ?_;intro dq aj ac F G h4 X hs hv M;refine ⟨F,?_⟩;refine Tq rfl (xB [_,_,_,_,_,_]) ?_;refine At rfl (eS [_,_,_,_,_,_] ac ?_);intro dr ds bk dt;revert av aj G h4 X hs hv M;refine eF bk ?_;intro av aj G h4 X hs hv M;refine Ak ?_;rotate_left
   . exact B8 (_,_,_,_,_) sB ⟨Ae,VDs.wide Ae (fun b h=>⟨Ab,Ab,Ab⟩),eX Ae (fun b h=>⟨Ab,Ab,Ab⟩),Ab,Ab,Ae,Ae,Ae,Ae,Ae⟩
   . exact B8 (_,_,_,_,_) sB ⟨Ae,VDs.wide Ae (fun b h=>⟨Ab,Ab,Ab⟩),eX Ae (fun b h=>⟨Ab,Ab,Ab⟩),Ab,Ab,Ae,Ae,Ae,Ae,Ae⟩
   . exact B8 (_,_,_,_,_) sB ⟨Ae,VDs.wide Ae (fun b h=>⟨Ab,Ab,Ab⟩),eX Ae (fun b h=>⟨Ab,Ab,Ab⟩),Ab,Ab,Ae,Ae,Ae,Ae,Ae⟩
 . clear h4 G hs X;rintro ⟨bq,bl,cd,bm,ce⟩ w1 ⟨V,O,U,o1,o2,bn,Y,Z,hs,X⟩;simp only at V O U o1 o2 bn;have hp:=hs.procs;have hz:=cH w1.heap.size;clear hs HV HI HC;refine Ai (cS (C1 Pf (C1 (Pl Y) (C1 Pz (C1 Mv (cT (Av ?_)))))));refine A1 (ι:=Nat×List PD×oA×Nat) (fun x=>[(1,.func (.func al) #[] #[]),(3,.pointer (some ⟨b1,0,none⟩)),(6,.pointer (some ⟨b8,0,none⟩)),(8,.pointer (some ⟨bq,0,none⟩)),(24,.slice pa g.procs.length pc),(25,.int .i64 g.procs.length),(26,.int .i64 x.1)])
    (fun x w'=>OwnL Ii w' w1.heap.size 59 (.slice x.2.2.1 x.2.1.length x.2.2.2) x.2.1/\x.2.1=(g.procs.take x.1).map (PD.map f)/\x.1<=g.procs.length/\Blk w' bq [.slice bl g.vars.length cd,.slice x.2.2.1 x.2.1.length x.2.2.2,.int .u8 (g.main.inv q).kind,.int .i64 (g.main.inv q).num,str (g.main.inv q).name,.slice bm (g.main.inv q).kids.length ce]/\VDs (fun b=>b8<b/\b≠bq/\b<w1.heap.size) w' g.vars bl/\(g.main.inv q).sits (fun b=>b8<b/\b≠bq/\b<w1.heap.size) w' bm /\
     Blk w' b1 [.slice va g.vars.length vc,.slice pa g.procs.length pc,.int .u8 g.main.kind,.int .i64 g.main.num,str g.main.name,.slice ma g.main.kids.length mc]/\Blk w' b8 [.slice none 0 0,.slice none 0 0,.int .u8 0,.int .i64 0,str [],.slice none 0 0]/\PDs (· < w.heap.size) w' g.procs pa/\Ext w w'/\w1.heap.size<=w'.heap.size)
    (fun x=>g.procs.length-x.1) (0,[],none,0) sB ⟨OwnL.nil,AR,cQ _,V,O,U,Y,Z,hp,X,hz⟩ ?_
   clear V O U Y Z hp X hz;rintro ⟨j,xs,ra,rc⟩ w3 ⟨L,am,hj,V,O,U,Y,Z,hp,X,hz⟩;simp only at L am hj V;have bo : ∀g',(cY ra xs.length rc).ownBlock=some g'->w1.heap.size<=g'/\g'<w3.heap.size:=fun g' h=>⟨L.ge h,L.lt h⟩
   have el:xs.length<=1000000:=by rw [am,List.length_map,eH];omega
   refine CW.sub (m:=[(1,.func (.func al) #[] #[]),(3,.pointer (some ⟨b1,0,none⟩)),(6,.pointer (some ⟨b8,0,none⟩)),(8,.pointer (some ⟨bq,0,none⟩)),(24,.slice pa g.procs.length pc),(25,.int .i64 g.procs.length),(26,.int .i64 (j:Int))]) ?_ sB;by_cases ap:j<g.procs.length
   . obtain ⟨kb,ko,rfl,kS,hk⟩:=Arr.get hp Ab;obtain ⟨xa,xc,ya,yc,rx,vx,sx⟩:=hk j _ (bT ap);have HX:=bU (HP.out _ (cL ap));have em:=HQ.out _ (cL ap);have HC:=bU (N0 g.procs[j].params Ab);have az:xs++[(g.procs[j]).map f]=(g.procs.take (j+1)).map (PD.map f):=by rw [am,Sq f _ j ap]
     clear hk HP HQ am;generalize g.procs[j]=x at *;refine eK ?_;refine xA [_,_,_,_,_,_] ?_;intro en eo cf;refine eI [_,_,_,_,_,_] cf ?_;intro bp ab cg ep er;revert L V O U Z X Y hp rx vx sx;refine eE cg ?_;intro L V O U Z X Y hp rx vx sx;refine cT (Ar (fun wz=>Ext bp wz) 13 (.pure 0 (.pure 1 (.pure 2 (.pure 3 (.pure 4 (.pure 5 (.pure 7 (.pure 8 (.pure 9 (.fork 6 (.fork 10 (.pure 11 (.fork 12 .tail .none)) .none) .none)))))))))) mixed A9 (Al (Aa (Aa (Al (Aa Ah))))) ?_);intro ch aw _;have N:(fun wz=>Ext bp wz) ch:=aw;simp only at N;have an:=ab;have aq:=L;have a0:=V;have a1:=O;have a2:=U;have a3:=Z;have a4:=Y;have br:=hp;have bs:=rx;have bt:=vx;have bu:=sx;revert ab L V O U Z X Y hp rx vx sx;refine eY aw ?_;intro du ab L V O U Z X Y hp rx vx sx;refine ⟨N,?_⟩;refine eT ?_;refine Tq rfl (xL [_,_,_,_] (fun wz hz=>(fH an hz))) ?_;refine tC rfl rfl (HC.out _ _ _ _ Ae) ?_;rintro _ dv ⟨dw,⟨dx,⟨⟨⟩,⟨ad,⟨bv,dy⟩⟩⟩⟩⟩;revert N ab L V O U Z X Y hp rx vx sx;refine eY bv ?_;intro dz N ab L V O U Z X Y hp rx vx sx;refine ⟨N,?_⟩;refine Ax rfl (Bv (fi:=[]) (ca:=[]) b3 rfl rfl (HX.out _ _ _ _ Ae) (fun _ _ h=>h.ret)) rfl ?_ aFh Aw;rintro _ d0 ⟨d1,⟨d2,⟨⟨⟩,⟨ao,bw⟩⟩⟩⟩;revert ad N ab L V O U Z X Y hp rx vx sx;refine eY bw ?_;intro d3 ad N ab L V O U Z X Y hp rx vx sx;refine ⟨N,?_⟩;refine Tq rfl (xB [_,_,_,_,_,_]) ?_;refine Ax rfl (xS [_,_,_,_,_,_]) rfl ?_ aFh Aw;rintro _ d4 ⟨d5,rfl,ak,d6⟩;have bx:=ak.blk;have bz:=ak.ext;have d7:=ak.pos;have d8:=ak.size;revert ao ad N ab L V O U Z X Y hp rx vx sx;refine eE bz ?_;intro ao ad N ab L V O U Z X Y hp rx vx sx;refine ⟨N,?_⟩;clear an aq a0 a1 a2 a3 a4 br bs bt bu N;refine At rfl ?_;refine AC (JJ (sh:=Ii) (z:=x.map f) Ad CY rfl rfl rfl rfl A9 rfl rfl rfl Ae (fN Ae) ⟨_,_,_,_,rfl,VDs.wide Ae (fun b h=>⟨Ab,fun e=>by have:=bo _ e;omega⟩),eX Ae (fun b h=>⟨Ab,fun e=>by have:=bo _ e;omega⟩),Ae⟩ Ab Ab) rfl ?_ aFh;rintro _ d9 ⟨ea,⟨b2,⟨rfl,⟨ax,ay⟩⟩⟩⟩
     have eb:=ay.size;clear bx ao ad ab L;revert V O U Z X Y hp rx vx sx;refine eF ay ?_;intro V O U Z X Y hp rx vx sx;refine C1 Pf (eV [_] [_,_,_,_,_,_] V ?_);intro ec ed b0 ee;clear V;revert ax O U Z X Y hp rx vx sx;refine eF b0 ?_;intro ax O U Z X Y hp rx vx sx;refine Ak (Af (Ag (Aj (C1 V7 (C1 Mv (Ak ?_))))));exact AI (j+1,xs++[x.map f],some ⟨_,0,none⟩,_) sB ⟨Ae,az,by simp only;omega,Ae,O,U,Y,Z,hp,X,Ab⟩ (by simp only;omega)
   . have ci:j=g.procs.length:=by omega
     subst ci;rw [dB] at am;refine eK ?_;refine eS [_,_,_,_,_,_] Z ?_;intro es et cj eu;revert L V O U Y hp X;refine eF cj ?_;intro L V O U Y hp X;refine C1 Pa (cT (AN ?_));refine GM rfl Ad rfl rfl rfl Ae rfl rfl ?_;exact WC am O bn L U X (fun b h=>by omega) (fun b h=>by omega) Ab
def O8 {g:PG} (h:g.ok=true):g.few:=by
 obtain ⟨M,N,-,F,G⟩:=Di h;obtain ⟨-,-,O⟩:=body_iff.1 G;refine ⟨Ab,Ab,Ab,fun p L=>?_⟩;obtain ⟨-,U,-,c4⟩:=Dj (F p L);obtain ⟨-,-,c3⟩:=body_iff.1 c4;exact ⟨Ab,Ab⟩
def PG.inv_id (q:Bool) (g:PG):g.inv id q=⟨g.vars,g.procs,g.main.inv q⟩:=by
 unfold PG.inv;congr 1
 conv=>rhs;rw [<-List.map_id g.procs]
 refine List.map_congr_left fun p _=>?_
 obtain ⟨a,b,c⟩:=p;rfl
def ZG {g:PG} (F:g.wf) (h:g.ok=true) (S:nP) (G:oA) (vc:Nat) (L:oA) (O:Nat) (M:oA) (U:Nat) (w:wD) (N:g.sits S w G L M) :
 Calls prog 35 #[.agg (g.cells G vc L O M U).toArray,.func (.func 36) #[] #[],.bool false] w (MB (g.inv id false) 0 w):=
 Sr false 36 id A9 g F h (O8 h) (JV h) (fun p V S a c w N=>OB p.body ((O8 h).procs p V).2 S a c w N) S G vc L O M U w N
def UP {u:PG} {k:Int} {w w':wD} {G F L:oA} {vc U V M N:Nat} (O:u.sits (fun b=>M<=b/\b<N) w' G F L) (Y:PDsC (fun b=>M<=b/\b<N) w' u.procs F) (Z:u.vars.length<=vc) (X:Ext w w') (hl:w.heap.size<=M) (hh:N<=w'.heap.size):MB u k w (.returned (.tuple #[.agg #[.slice G u.vars.length vc,.slice F u.procs.length U,.int .u8 u.main.kind,.int .i64 u.main.num,str u.main.name,.slice L u.main.kids.length V],.int .i64 k])) w':=
 ⟨G,vc,F,U,L,V,rfl,⟨O.vars.wide fun b h=>by omega,PDs.wide O.procs fun b h=>by omega,eX O.main fun b h=>by omega⟩,PDsC.wide Y fun b h=>by omega,Z,X⟩
def QX {k:Int} (u g:PG) (Y : ∀(S:nP) (M:oA) (vc:Nat) (N:oA) (Z:Nat) (O:oA) (mc:Nat) (w:wD),g.sits S w M N O ->
      Calls prog 35 #[.agg (g.cells M vc N Z O mc).toArray,.func (.func 36) #[] #[],.bool false] w (MB u k w))
 (S:nP) (M:oA) (vc:Nat) (N:oA) (Z:Nat) (O:oA) (mc:Nat) (w:wD) (F:g.sits S w M N O) :
 Calls prog 11 #[.agg (g.cells M vc N Z O mc).toArray] w (MB u k w):=by
 have X:=eU w;have F:=F.ltA;have Y:=bU Y;refine Ac func11 ntmps11 rfl rfl ?_;refine cS (eB [_,_,_,_,_,_] ?_);intro b1 w2 L x5 p6 z7;revert X F;refine eE x5 ?_;intro X F;refine eA [_,_,_,_,_,_] ?_;intro b8 w9 G aa aj ak;revert L X F;refine eE aa ?_;intro L X F;refine eK ?_;refine AC (AU A9 rfl (Y.out _ _ _ _ _ _ _ _ Ae) (fun _ _ ⟨_,_,_,_,_,_,h⟩=>⟨_,h.1⟩)) rfl ?_ aFh;rintro _ al ⟨ad,⟨ae,⟨af,⟨ag,⟨ah,⟨ai,⟨⟨⟩,⟨U,⟨V,⟨am,ab⟩⟩⟩⟩⟩⟩⟩⟩⟩⟩;revert G L X F;refine eY ab ?_;intro an G L X F;refine eK ?_;refine eS [_,_,_,_,_,_] G ?_;intro ao ap ac aq;revert U V L X F;refine eF ac ?_;intro U V L X F;refine C1 Pa (cT (AN ?_));refine GM rfl Ad rfl rfl rfl Ae rfl rfl ?_;exact UP Ae Ae Ae X Ab Ab
def QY {g:PG} (h:g.wf) (F:g.ok=true) (S:nP) (G:oA) (vc:Nat) (L:oA) (N:Nat) (M:oA) (O:Nat) (w:wD) (U:g.sits S w G L M) :
 Calls prog 11 #[.agg (g.cells G vc L N M O).toArray] w (MB (g.inv id false) 0 w):=QX _ g (ZG h F) S G vc L N M O w U
def NZ {α:Type} (X:Except Int α):Prop:=X≠.error 0
def NZ.bind {α β:Type} {X:Except Int α} {K:α->Except Int β} (h:NZ X) (F : ∀v,NZ (K v)):NZ (X.bind K):=by
 cases X with
 | error e=>exact fun G=>h (by simpa [cJ] using G)
 | ok v=>exact F v
def WD {α:Type} (v:α):NZ (Except.ok v:Except Int α):=by unfold NZ;simp
def Gs (r:Rn):NZ (A7 r):=by unfold NZ A7;split<;>simp
def MC (f:Stp->Int×Stp) (r:Rn):NZ (CI f r):=by
 unfold NZ CI;split
 . rename_i h;intro e;exact h (by simpa using e)
 . simp
def MD (t:Nd) (r:Rn):NZ (BH t r):=by
 unfold NZ BH;split
 . rename_i h;intro e;exact h (by simpa using e)
 . simp
def ME (t:Nd) (r:Rn):NZ (BL t r):=(Gs r).bind fun r=>(MD t r).bind fun _=>WD _
def KD (t:Nd) (b:Bool) (r:Rn):NZ (Bp t b r):=(ME t r).bind fun p=>by unfold NZ;split<;>simp
def WE {f:Nd->Rn->Except Int Rn} (h : ∀t r,NZ (f t r)) : ∀(l:List Nd) (r:Rn),NZ (E2 f l r)
 | [],r=>WD r
 | t::l,r=>(h t r).bind fun r=>WE h l r
def MF {f:Bool->Nd->Rn->Except Int Rn} (h : ∀b t r,NZ (f b t r)) (b:Bool) (t:Nd) (r:Rn):NZ (AD f b t r):=WE (fun t r=>h b t r) _ r
def Th {h F:Rn->Except Int Rn} {x y:Nd} (G : ∀r,NZ (h r)) (L : ∀r,NZ (F r)) : ∀(m:Nat) (r:Rn),NZ (Cs h F x y m r)
 | 0,r=>by unfold NZ Cs;simp
 | m+1,r=>by
  unfold Cs;refine (G r).bind fun r=>(ME x r).bind fun p=>?_
  split
  . exact WD _
  . exact (L _).bind fun r=>(KD y false r).bind fun r=>Th G L m r
def O9 (ps:List PD) : ∀(d:Nat) (b:Bool) (t:Nd) (r:Rn),NZ (Au ps d b t r)
 | 0,b,t,r=>by unfold NZ Au;simp
 | d+1,b,.mk k n s l,r=>by
  have h:=MF (O9 ps d);unfold Au;simp only;split
  . exact (ME _ r).bind fun p=>(h b _ _).bind fun r=>KD _ _ r
  split
  . exact (KD _ _ r).bind fun r=>Th (h b _) (h b _) d r
  split
  . exact (Gs r).bind fun r=>(MD _ r).bind fun v=>(MC _ r).bind fun r=>(h b _ r).bind fun r=>(Gs r).bind fun r=>(MD _ r).bind fun v=>MC _ r
  split
  . exact (Gs r).bind fun r=>(MC _ r).bind fun r=>(h b _ r).bind fun r=>(Gs r).bind fun r=>MC _ r
  split
  . exact (Gs r).bind fun r=>(MC _ r).bind fun r=>(h _ _ r).bind fun r=>(Gs r).bind fun r=>MC _ r
  . exact (Gs r).bind fun r=>MC _ r
def Pb (ps:List PD) (b:Bool) (t:Nd) (r:Rn) : ∃d,AD (Au ps d) b t r≠.error (-1):=
 KX (F:=fun d=>Au ps d) (fun d G b t h=>Kx ps b t h) (fun d b t=>Ig ps d b t) r.rem b t (fun x _ r L=>R0 ps r.rem b x r (cH _)) r (cH _)
def Lp {ps:List PD} : ∀ {l:List Nd},(∀t∈l,Zv ps t)->We ps l
 | [],_=>trivial
 | t::r,h=>⟨h t AR,Lp fun x F=>h x (by simp [F])⟩
def EP {ps:List PD} {v:List VD} : ∀ {l:List Nd},GQ ps v l=0 -> ∀t∈l,t.flt ps v=0
 | [],_,_,h=>by simp at h
 | x::r,F,t,h=>by
  simp only [GQ,Nat.add_eq_zero_iff] at F;rcases dQ.1 h with rfl|h
  . exact F.1
  . exact EP F.2 t h
def WG (ps:List PD) (N:Nat) : ∀t:Nd,t.size<N->t.isExpr=true->Zv ps t:=by
 induction N with
 | zero=>intro t h;omega
 | succ N G=>
  rintro ⟨k,n,s,l⟩ L h;have M:=GG h;simp only [fS] at M;simp only [fF] at L;exact ⟨fun e=>by omega,Lp fun x F=>G x (by have:=Cz F;omega) ((II h).2.1 x F)⟩
def EQ (ps:List PD) {t:Nd} (h:t.isExpr=true):Zv ps t:=WG ps (t.size+1) t Ab h
def MG {e:Int} (h:Ou e=0):e=0:=by unfold Ou at h;split at h<;>first|assumption|cases h
def YB (ps:List PD) (N:Nat) : ∀(t:Nd) (v:List VD),t.size<N->(t.isStmt=true\/t.isBlock=true)->t.flt ps v=0->Zv ps t:=by
 induction N with
 | zero=>intro t v h;omega
 | succ N U=>
  intro t v V h G;rcases h with h|h
  . cases BT h with
    | upd O F M=>
     exact ⟨fun e=>by omega,EQ ps (A0 F),EQ ps M,trivial⟩
    | swap F M=>exact ⟨fun e=>by omega,EQ ps (A0 F),EQ ps (A0 M),trivial⟩
    | stack O X F=>exact ⟨fun e=>by omega,EQ ps (A0 F),trivial⟩
    | tape O F=>exact ⟨fun e=>by omega,EQ ps (A0 F),trivial⟩
    | call O X hl hv=>
     rename_i k s l;refine ⟨fun _=>?_,Lp fun x F=>EQ ps (G0 (List.all_eq_true.1 hv x F))⟩;rw [Nd.flt,AG O,Nat.add_eq_zero_iff] at G;have L:=MG G.1;unfold B7 Nr at L;rw [As Ab,As Ab,As Ab,As Ab,AG O] at L;cases hp:Cf ps s with
     | some i=>rfl
     | none=>rw [hp] at L;simp at L
    | branch O F M Y hu=>
     rename_i k x y z u;rw [Cc Ab Ab Ab Ab] at G;simp only [fF,Aq] at V;have L:=(Nat.add_eq_zero_iff.1 G).2;exact ⟨fun e=>by omega,EQ ps F,U y v Ab (bX M) (EP L y AR),U z v Ab (bX Y) (EP L z AR),EQ ps hu,trivial⟩
    | local_ X F M Y=>
     rename_i s x y z;rw [Nd.flt,As Ab] at G;simp only [fF,Aq] at V;simp only [CP,Nat.add_eq_zero_iff] at G;exact ⟨fun e=>by omega,EQ ps F,U y _ Ab (bX M) G.2.2.1,EQ ps Y,trivial⟩
    | lstack X F=>
     rename_i s x;rw [Nd.flt,As Ab] at G;simp only [fF,Aq] at V;simp only [CP,Nat.add_eq_zero_iff] at G;exact ⟨fun e=>by omega,U x _ Ab (bX F) G.2.1,trivial⟩
  . obtain ⟨k,n,s,l⟩:=t;obtain ⟨e,Z⟩:=DT h;simp only [gB] at Z;obtain ⟨rfl,-⟩:=Nd.mk.inj e;rw [Cc Ab Ab Ab Ab] at G;have L:=(Nat.add_eq_zero_iff.1 G).2;simp only [fF] at V;exact ⟨fun e=>by omega,Lp fun x F=>U x v (by have:=Cz F;omega) (bW (rowStmt_iff.1 Z x F)) (EP L x F)⟩
def Jl {ps:List PD} : ∀ {l:List PD} {i:Nat},Eb ps i l=0 -> ∀p∈l,p.body.flt ps p.params=0
 | [],_,_,_,h=>by simp at h
 | x::r,i,F,p,h=>by
  simp only [Eb,Nat.add_eq_zero_iff] at F;rcases dQ.1 h with rfl|h
  . exact F.1.2
  . exact Jl F.2 p h
def N5 {ps:List PD} {t:Nd} {v:List VD} (h:t.wf) (F:DZ t=true) (G:t.flt ps v=0):StOk ps t:=by
 obtain ⟨L,M,N⟩:=body_iff.1 F;exact ⟨h,Ab,YB ps (t.size+1) t v Ab (bX L) G⟩
def UQ {g:PG} (h:g.wf) (F:g.ok=true) (G:g.flt=0):StOk g.procs g.main:=by
 unfold PG.flt at G;exact N5 h.main (Di F).2.2.2.2 (Nat.add_eq_zero_iff.1 G).2
def WH {g:PG} (h:g.wf) (F:g.ok=true) (L:g.flt=0):ProcsOk g:=by
 unfold PG.flt at L;have N:=(Nat.add_eq_zero_iff.1 (Nat.add_eq_zero_iff.1 L).1).2;obtain ⟨-,U,-,O,-⟩:=Di F;refine ⟨Ab,fun p G=>?_⟩;obtain ⟨-,V,-,M⟩:=Dj (O p G);exact ⟨(body_iff.1 M).1,N5 (h.procs p G).body M (Jl N p G),Ab⟩
def Ti {vs:List VD} {s:SV} (h:FitsP vs s):(Dl vs s vs.length).WF (vs.map fun v=>(v.kind,v.len)) 1000:=by
 have he:=h.each;obtain ⟨⟨h1,U⟩,V,h4,h5,X⟩:=h;have Y:s.cells.take vs.length=s.cells:=List.take_of_length_le Ab;have Z:vs.take vs.length=vs:=dB;unfold Dl;rw [Y,Z];have hb:FrmWF (vs.map fun v=>(v.kind,v.len)) ⟨vs,List.range vs.length,0⟩:=⟨AR,cQ _,fun i v c F N=>by
  have O:=(List.getElem?_eq_some_iff.1 F).1;rw [List.getElem?_range (by simpa using O)] at N;obtain rfl:=cD N;simp [F]⟩
 refine ⟨by simp [V],hb,fun f L=>by simp at L,fun c x G=>?_,cQ _,fun f L=>?_⟩
 . rw [dZ] at G;cases F:vs[c]? with
   | none=>rw [F] at G;cases G
   | some v=>
    rw [F] at G;obtain rfl:=cD G;have O:=(List.getElem?_eq_some_iff.1 F).1;have M:=X c v _ F (bT (show c<s.cells.length by omega));have h8:=U v (dL F);have h9:(Stp.items ⟨s.cells,⟨vs,List.range vs.length,0⟩,[],s.tin,s.tout⟩ c)=s.cells[c]:=by
     unfold Stp.items;simp [cB,bT (show c<s.cells.length by omega)]
    rw [h9];unfold O3 KB at M;unfold O1 at h8;unfold cellOk;simp only;split at M
    . omega
    . split at M<;>omega
 . simp only [List.mem_singleton] at L;rw [L];simp only;omega
def QZ (s:SV) (f:Nat):Except Int Rn->ResV
 | .error e=>⟨s,0,e⟩
 | .ok r=>⟨r.st.sv,(f:Int)-r.rem,0⟩
def Q0 {P:Program} {n:Nat} {l:Sl} {tab:Tab} {sz:Nat} {w:wD} {fn:Func} {R:Ending->wD->Prop} {M F b s:Nat} {U:Sk} {vs:lV} {N:Value} (h:fn.results = #[.tmp s,.cell M F]) (T:TabOk P tab) (V:Az tab F=some (U,sz)) (X:U.agg=true)
 (Y:look l M=some (.pointer (some ⟨b,0,none⟩))) (Z:look l s=some N) (hb:Blk w b vs) (hl:vs.length=sz) (hR:R (.returned (.tuple #[N,.agg vs.toArray])) w):QW n (bodyPost P fn R) .ret l w:=by
 unfold QW;intro a O;refine ⟨O.defers,.tuple #[N,.agg vs.toArray],?_,hR⟩;have e:(loadVar F ⟨b,0,none⟩).run P w = .ok (.agg vs.toArray) w:=by
  simp only [cU,dC,cG,loadVar,DG (T _ _ _ V),X,if_true,Ck (T _ _ _ V)];rw [<-hl,CM hb.row]
 have G:=O.has M _ Y;have L:=O.has s _ Z;simp only [Array.getD_eq_getD_getElem?] at G L;simp [results,h,G,L,e,asAddr]
section
variable {c:RC} {P P':nP} {w w':wD} {r:Rn} {T:nP}
def WI (hc:c.fuel<=10000) (hg:ProcsOk c.g) (G:StOk c.g.procs c.g.main) (L:c.g.main.isBlock=true) (d:Nat) (b:Bool) (U:AD (Au c.g.procs d) b c.g.main r≠.error (-1)) (M V b7 vc pc X:Nat) (va pa O:oA) (w:wD) (h:Run c P w r)
 (aa:Blk w M [.pointer (some ⟨c.rb,0,none⟩)]) (Y:Blk w V (c.g.cells va vc pa pc O X)) (h7:Blk w b7 [.bool b]) (hm:c.g.main.sits P w O) :
 Calls prog 65 #[.pointer (some ⟨M,0,none⟩),.pointer (some ⟨V,0,none⟩),.pointer (some ⟨b7,0,none⟩)] w (D0 c P (AD (Au c.g.procs d) b c.g.main r) w):=by
 have HB:=bU (Wk hc hg d P b c.g.main r O X w L G U hm h);generalize AD (Au c.g.procs d) b c.g.main r=Z at *;unfold D0 at HB;clear h hm G L;have F:=fC (fun k=> ¬P k) w;unfold PG.cells at Y;generalize c.g.main=t at *;obtain ⟨k,n,s,l⟩:=t;replace Y:Blk w V [.slice va c.g.vars.length vc,.slice pa c.g.procs.length pc,.int .u8 k,.int .i64 n,str s,.slice O l.length X]:=Y;refine Ac func65 ntmps65 rfl rfl ?_
 focus
  refine eK ?_;refine A3 (AK A9 rfl (HB.out) (fun _ _ h=>h.ret)) rfl ?_ ?_;rotate_left;intro c7 w8 q9
  rotate_right 1
  rintro _ ab ⟨ac,⟨⟨⟩,⟨rfl,⟨ad,N⟩⟩⟩⟩;have ae:=N.size;have F:=fJ F N (fun k hk=>bW hk);refine Ak (Bs rfl ?_);rotate_left;refine AB ?_;rotate_left
 . exact bW ⟨_,rfl,rfl,Ae,F⟩
 . exact bX ⟨_,rfl,Ae⟩
end
def PathAt (S:nP) (w:wD) (a:oA) (n c:Nat):Prop:=(n<=c/\(a=none->c=0)) /\ ∃cs:lV,cs.length=n*1/\cs.all Value.one=true/\Rows S w cs a
def PathAt.nil {S:nP} {w:wD}:PathAt S w none 0 0:=⟨⟨cH _,fun _=>rfl⟩,[],rfl,rfl,bW rfl⟩
def PathAt.ext {S:nP} {w w':wD} {a:oA} {n c:Nat} (h:PathAt S w a n c) (x:Ext w w'):PathAt S w' a n c:=⟨h.1,by obtain ⟨cs,F,G,L⟩:=h.2;exact ⟨cs,F,G,L.ext x⟩⟩
instance {S:nP} {w w':wD} {a:oA} {n c:Nat}:LfE w w' (PathAt S w a n c) (PathAt S w' a n c):=⟨fun x h=>Bk.PathAt.ext h x⟩
def PathAt.fr {S T:nP} {w w':wD} {a:oA} {n c:Nat} (h:PathAt S w a n c) (x:Fr T w w') (F : ∀b,S b -> ¬T b):PathAt S w' a n c:=⟨h.1,by obtain ⟨cs,G,L,M⟩:=h.2;exact ⟨cs,G,L,M.fr x F⟩⟩
instance {S T:nP} {w w':wD} {a:oA} {n c:Nat}:LfF T w w' (PathAt S w a n c) (∀b,S b -> ¬T b) (PathAt S w' a n c):=⟨fun x s h=>Bk.PathAt.fr h x s⟩
def PathAt.clone {S:nP} {w:wD} {a:oA} {n c:Nat} (h:PathAt S w a n c) (O:n<=1000000):Calls prog 27 #[.slice a n c] w (SliceR n w):=by
 obtain ⟨⟨U,F⟩,cs,G,L,M⟩:=h;cases a with
 | some p=>exact KZ cs n G L Ab S p c w M
 | none=>
  have N:=F rfl;subst N;obtain rfl:n=0:=by omega
  exact K0 w
def ChildR (n:Nat) (w:wD):Ending->wD->Prop:=fun e w'=> ∃g c,e = .returned (.slice (some ⟨g,0,none⟩) (n+1) c)/\PathAt (fun b=>w.heap.size<=b/\b<w'.heap.size) w' (some ⟨g,0,none⟩) (n+1) c/\Ext w w'
def ChildR.ret {n:Nat} {w:wD} {e:Ending} {w':wD} (h:ChildR n w e w') : ∃v,e = .returned v:=by
 obtain ⟨_,_,h,-⟩:=h;exact ⟨_,h⟩
def Tj (i:Int) (S:nP) (a:oA) (n c:Nat) (w:wD) (U:n<=1000000) (V:PathAt S w a n c):Calls prog 58 #[.slice a n c,.int .i64 i] w (ChildR n w):=by
 have X:=eU w;obtain ⟨⟨Y,-⟩,cs,N,Z,h⟩:=V;have h:=h.ltA;refine Ac func58 ntmps58 rfl rfl ?_;refine eK ?_;refine cC rfl (Yf _ _ _ _ Y U) ?_;rintro _ w1 ⟨⟨⟩,rfl⟩;refine C1 Mv ?_;refine AC (xS [_]) rfl ?_ aFh;rintro _ w3 ⟨b2,rfl,F,t5⟩;have O:=F.blk;have x7:=F.ext;have p8:=F.pos;have z9:=F.size;revert X h;refine eE x7 ?_;intro X h;refine AC (Dk Ad CY rfl rfl rfl rfl A9 rfl rfl rfl Ae N (fN Ae) rfl rfl Ab) rfl ?_ aFh;rintro _ aa ⟨ab,⟨G,⟨rfl,⟨L,⟨ac,⟨ad,⟨ae,M⟩⟩⟩⟩⟩⟩⟩;revert O X h;refine eY M ?_;intro af O X h;refine eK ?_;refine xR ?_;exact ⟨_,_,rfl,⟨⟨L,fun e=>by cases e⟩,cs++[.int .i64 i],by simp [N],by rw [List.all_append,Z];rfl,bX ⟨_,_,rfl,⟨Ab,Ab⟩,Ae⟩⟩,X⟩
def InnerR (S:nP) (L:List VD) (w:wD):Ending->wD->Prop:=fun e w'=> ∃a c,e = .returned (.slice a L.length c)/\L.length<=c/\VDs (fun b=>S b\/(w.heap.size<=b/\b<w'.heap.size)) w' L a/\Ext w w'
def InnerR.ret {S:nP} {L:List VD} {w:wD} {e:Ending} {w':wD} (h:InnerR S L w e w') : ∃v,e = .returned v:=by
 obtain ⟨_,_,h,-⟩:=h;exact ⟨_,h⟩
def MH {S:nP} {l:List VD} {v:VD} {g c:Nat} {w w':wD} (h:l.length+1<=c) (F:Row w' ⟨g,0,none⟩ (l.flatMap VD.cells++v.cells)) (G:w.heap.size<=g) (L:g<w'.heap.size) (X:Ext w w'):InnerR S (l++[v]) w (.returned (.slice (some ⟨g,0,none⟩) (l.length+1) c)) w':=by
 refine ⟨some ⟨g,0,none⟩,c,AR,by simpa using h,My (bX ⟨g,0,rfl,bX ⟨G,L⟩,?_⟩),X⟩;rw [List.flatMap_append];simpa using F
def YC (k n:Int) (s:lB) (kl:List Nd) (ka:oA) (kc i:Nat) (l:List VD) (hl:l.length<=1000000) (S:nP) (a:oA) (c:Nat) (w:wD) (hc:l.length<=c) (L:VDs S w l a) :
 Calls prog 60 #[(Nd.mk k n s kl).val ka kc,.int .i64 i,.slice a l.length c] w (InnerR S (Cr k s i l) w):=by
 have X:=eU w;have h1:=H7 O4 l;have L:=QN L;have M:=L.ltA;show Calls prog 60 #[.agg #[.int .u8 k,.int .i64 n,str s,.slice ka kl.length kc],.int .i64 i,.slice a l.length c] w (InnerR S (Cr k s i l) w);by_cases Y:k=54/\i=1
 . have hv:Cr k s i l=l++[⟨s,1,0⟩]:=by unfold Cr;rw [AG Y]
   rw [hv];obtain ⟨rfl,rfl⟩:=Y;refine Ac func60 ntmps60 rfl rfl ?_
   focus
    refine cS (eB [_,_,_,_] ?_);intro b1 w2 V x5 p6 z7;revert X L M;refine eE x5 ?_;intro X L M;refine eK ?_;refine Ar (fun wz=>Ext w2 wz) 6 (.pure 0 (.pure 2 (.pure 3 (.pure 4 (.fork 1 (.fork 5 .tail .none) (.fork 5 (.fork 1 .tail .none) .none)))))) mixed A9 (Aa (Al (Aa Ah))) ?_;intro w8 x9 _;have G:(fun wz=>Ext w2 wz) w8:=x9;simp only at G;have a4:=V;have ae:=L;have af:=M;revert V X L M;refine eY x9 ?_;intro bw V X L M;refine ⟨G,?_⟩;refine eT ?_;refine Tq rfl (xB [_,_,_]) ?_;refine Ax rfl (AU A9 rfl (Ln _ _ _ _ hc hl) (fun _ _ h=>⟨_,h.1⟩)) rfl ?_ aFh ?kr12;rintro _ bx ⟨⟨⟩,rfl⟩;refine ⟨G,?_⟩;refine Ax rfl (xS [_,_,_]) rfl ?_ aFh Aw;rintro _ bz ⟨b0,rfl,Z,b2⟩;have ag:=Z.blk;have av:=Z.ext;have b3:=Z.pos;have z22:=Z.size;revert G V X L M;refine eE av ?_;intro G V X L M;refine ⟨G,?_⟩;refine At rfl ?_;refine AC (Dk Ad CY rfl rfl rfl rfl A9 rfl rfl rfl Ae h1 (fN Ae) rfl rfl Ab) rfl ?_ aFh;rintro _ b4 ⟨b5,⟨ar,⟨rfl,⟨b6,⟨b7,⟨b8,⟨b9,ah⟩⟩⟩⟩⟩⟩⟩;have ca:=ah.size;revert ag V X L M;refine eE ah ?_;intro ag V X L M;refine eK ?_;refine xR ?_;rotate_left;refine Ax rfl (xS [_,_,_]) rfl ?_ aFh Aw;rintro _ cb ⟨cc,rfl,aa,cd⟩;have ai:=aa.blk;have aw:=aa.ext;have ce:=aa.pos;have cf:=aa.size;revert G V X L M;refine eE aw ?_;intro G V X L M;refine ⟨G,?_⟩;refine tC rfl rfl (Ln _ _ _ _ hc hl) ?_;rintro _ cg ⟨⟨⟩,rfl⟩;refine ⟨G,?_⟩;refine At rfl ?_;refine AC (Dk Ad CY rfl rfl rfl rfl A9 rfl rfl rfl Ae h1 (fN Ae) rfl rfl Ab) rfl ?_ aFh;rintro _ ch ⟨ci,⟨au,⟨rfl,⟨cj,⟨ck,⟨cl,⟨cm,ax⟩⟩⟩⟩⟩⟩⟩;revert ai V X L M;refine eY ax ?_;intro z51 ai V X L M;refine eK ?_;refine xR ?_;rotate_left
   all_goals exact MH (v:=⟨s,1,0⟩) Ae Ae Ab Ae X
 by_cases ad:k=55/\i=0
 . have hv:Cr k s i l=l++[⟨s,3,0⟩]:=by unfold Cr;rw [As Y,AG ad]
   rw [hv];obtain ⟨rfl,rfl⟩:=ad;refine Ac func60 ntmps60 rfl rfl ?_
   focus
    refine cS (eB [_,_,_,_] ?_);intro cn aj N ay co cp;revert X L M;refine eE ay ?_;intro X L M;refine eK ?_;refine Ar (fun wz=>Ext aj wz) 6 (.pure 0 (.pure 2 (.pure 3 (.pure 4 (.fork 1 (.fork 5 .tail .none) (.fork 5 (.fork 1 .tail .none) .none)))))) mixed A9 (Aa (Al (Aa Ah))) ?_;intro az ak _;have F:(fun wz=>Ext aj wz) az:=ak;simp only at F;have a0:=N;have ae:=L;have af:=M;revert N X L M;refine eY ak ?_;intro a5 N X L M;refine ⟨F,?_⟩;refine eT ?_;refine Tq rfl (xB [_,_,_]) ?_;refine Ax rfl (AU A9 rfl (Ln _ _ _ _ hc hl) (fun _ _ h=>⟨_,h.1⟩)) rfl ?_ aFh ?kra12;rintro _ a6 ⟨⟨⟩,rfl⟩;refine ⟨F,?_⟩;refine Ax rfl (xS [_,_,_]) rfl ?_ aFh Aw;rintro _ a7 ⟨a8,rfl,O,a9⟩;have ab:=O.blk;have al:=O.ext;have ba:=O.pos;have bb:=O.size;revert F N X L M;refine eE al ?_;intro F N X L M;refine ⟨F,?_⟩;refine At rfl ?_;refine AC (Dk Ad CY rfl rfl rfl rfl A9 rfl rfl rfl Ae h1 (fN Ae) rfl rfl Ab) rfl ?_ aFh;rintro _ bc ⟨bd,⟨am,⟨rfl,⟨be,⟨bf,⟨bg,⟨bh,an⟩⟩⟩⟩⟩⟩⟩;revert ab N X L M;refine eY an ?_;intro bi ab N X L M;refine eK ?_;refine xR ?_;rotate_left;refine Ax rfl (xS [_,_,_]) rfl ?_ aFh Aw;rintro _ bj ⟨bk,rfl,U,bl⟩;have ac:=U.blk;have ao:=U.ext;have bm:=U.pos;have bn:=U.size;revert F N X L M;refine eE ao ?_;intro F N X L M;refine ⟨F,?_⟩;refine tC rfl rfl (Ln _ _ _ _ hc hl) ?_;rintro _ bo ⟨⟨⟩,rfl⟩;refine ⟨F,?_⟩;refine At rfl ?_;refine AC (Dk Ad CY rfl rfl rfl rfl A9 rfl rfl rfl Ae h1 (fN Ae) rfl rfl Ab) rfl ?_ aFh;rintro _ bp ⟨bq,⟨ap,⟨rfl,⟨br,⟨bs,⟨bt,⟨bu,aq⟩⟩⟩⟩⟩⟩⟩;revert ac N X L M;refine eY aq ?_;intro bv ac N X L M;refine eK ?_;refine xR ?_;rotate_left
   all_goals exact MH (v:=⟨s,3,0⟩) Ae Ae Ab Ae X
 . have hv:Cr k s i l=l:=by unfold Cr;rw [As Y,As ad]
   rw [hv];refine Ac func60 ntmps60 rfl rfl ?_
   focus
    refine cS (eB [_,_,_,_] ?_);intro cq cr ct a1 cu cv;revert X L;refine eE a1 ?_;intro X L;refine eK ?_;refine C6 rfl rfl rfl (fun a2=>?_) (fun a2=>?_);refine eK ?_;refine xR ?_;rotate_left;refine eK ?_;refine C6 rfl rfl rfl (fun a3=>?_) (fun a3=>?_);refine eK ?_;refine xR ?_;rotate_left;refine eK ?_;refine xR ?_;rotate_left
   all_goals exact ⟨_,_,rfl,hc,(My Ae).wide (fun _ h=>bW h),X⟩
def Q1 {ps:List PD} {s:lB} {i:Nat} (h:Cf ps s=some i):i<ps.length:=by
 unfold Cf at h;obtain ⟨F,-⟩:=List.findIdx?_eq_some_iff_getElem.1 h;exact F
set_option maxHeartbeats 8000000 in
def YD (g:PG) (hg:g.procs.length<=1000000) (k n:Int) (s:lB) (l:List Nd) (ka:oA) (kc:Nat) (v:List VD) (hv:v.length<=1000000) (S S':nP) (va:oA) (vc:Nat) (pa:oA) (pc:Nat) (ma:oA) (mc:Nat) (a:oA) (c:Nat) (w:wD) (F:PDs S w g.procs pa) (L:VDs S' w v a) :
 Calls prog 57 #[.agg (g.cells va vc pa pc ma mc).toArray,(Nd.mk k n s l).val ka kc,.slice a v.length c] w fun e w'=>e = .returned (.int .i64 (B7 g.procs v k s l.length))/\Ext w w':=by
 have X:=eU w;have F:=F.ltA;have HU:=bU (Z6 v hv s);have HF:=bU (OR v hv s);have HP:=bU (OS g hg s);show Calls prog 57 #[.agg (g.cells va vc pa pc ma mc).toArray,.agg #[.int .u8 k,.int .i64 n,str s,.slice ka l.length kc],.slice a v.length c] w _;refine Ac func57 ntmps57 rfl rfl ?_
 focus
  refine cS (eB [_,_,_,_,_,_] ?_);intro b1 w2 M x5 p6 z7;revert L X F;refine eE x5 ?_;intro L X F;refine eB [_,_,_,_] ?_;intro b8 w9 G ac a1 a2;revert M L X F;refine eE ac ?_;intro M L X F;refine eK ?_;refine Ay rfl (fun ad=>?_) (fun ad=>?_);rotate_left;rotate_left
 . have O:B7 g.procs v k s l.length=EC v s 1:=by unfold B7;rw [AG Ab]
   rw [O];refine eK ?_;refine cC rfl (HU.out _ _ _ _ _ Ae) ?_;rintro _ a3 ⟨⟨⟩,ae⟩;revert G M L X F;refine eY ae ?_;intro a4 G M L X F;refine eK ?_;refine xR ?_;exact ⟨rfl,X⟩
 focus
  refine eK ?_;refine Ay rfl (fun af=>?_) (fun af=>?_);rotate_left;refine Ai ?_;rotate_left
 . have O:B7 g.procs v k s l.length=EC v s 2:=by unfold B7;rw [As Ab,AG Ab]
   rw [O];refine eK ?_;refine cC rfl (HU.out _ _ _ _ _ Ae) ?_;rintro _ a5 ⟨⟨⟩,ag⟩;revert G M L X F;refine eY ag ?_;intro a6 G M L X F;refine eK ?_;refine xR ?_;exact ⟨rfl,X⟩
 refine DY (ι:=Unit) (fun _=>[(2,.slice a v.length c),(3,.pointer (some ⟨b1,0,none⟩)),(4,.pointer (some ⟨b8,0,none⟩)),(9,.int .u8 k),(22,.bool (decide (k=4\/k=5\/k=44\/k=45)))]) (fun _ w'=>w'=w9) ?_ ?_
 . focus
    refine eK ?_;refine Ay rfl (fun ah=>?_) (fun ah=>?_);refine Am ?_;rotate_left;refine eK ?_;refine Ay rfl (fun ai=>?_) (fun ai=>?_);refine Am ?_;rotate_left;refine eK ?_;refine Ay rfl (fun aj=>?_) (fun aj=>?_);refine Am ?_;rotate_left;refine Aj (C1 V1 (C1 Pa (Ak ?_)));rotate_left
   all_goals exact B8 () (AQ rfl (AQ rfl (AQ rfl (AQ rfl (Bx rfl (congrArg Value.bool (decide_eq_decide.2 Ab)) Cy))))) rfl
 rintro-u1 h;subst h
 focus
  refine Ay rfl (fun ak=>?_) (fun ak=>?_);rotate_left;refine Ai ?_;rotate_left
 . have O:B7 g.procs v k s l.length=EC v s 3:=by unfold B7;rw [As Ab,As Ab,AG Ab]
   rw [O];refine eK ?_;refine cC rfl (HU.out _ _ _ _ _ Ae) ?_;rintro _ a7 ⟨⟨⟩,al⟩;revert G M L X F;refine eY al ?_;intro a8 G M L X F;refine eK ?_;refine xR ?_;exact ⟨rfl,X⟩
 refine DY (ι:=Unit) (fun _=>[(2,.slice a v.length c),(3,.pointer (some ⟨b1,0,none⟩)),(4,.pointer (some ⟨b8,0,none⟩)),(9,.int .u8 k),(31,.bool (decide (k=54\/k=55)))]) (fun _ w'=>w'=u1) ?_ ?_
 . focus
    refine eK ?_;refine Ay rfl (fun am=>?_) (fun am=>?_);refine Am ?_;rotate_left;refine Aj (C1 V1 (C1 Pa (Ak ?_)));rotate_left
   all_goals exact B8 () (AQ rfl (AQ rfl (AQ rfl (AQ rfl (Bx rfl (congrArg Value.bool (decide_eq_decide.2 Ab)) Cy))))) rfl
 rintro-u2 h;subst h
 focus
  refine Ay rfl (fun an=>?_) (fun an=>?_);rotate_left;refine Ai ?_;rotate_left
 . have O:B7 g.procs v k s l.length=Fs v s:=by unfold B7;rw [As Ab,As Ab,As Ab,AG Ab]
   rw [O];refine eK ?_;refine cC rfl (HF.out _ _ _ _ Ae) ?_;rintro _ a9 ⟨⟨⟩,ao⟩;revert G M L X F;refine eY ao ?_;intro bb G M L X F;refine eK ?_;refine xR ?_;exact ⟨rfl,X⟩
 refine DY (ι:=Unit) (fun _=>[(2,.slice a v.length c),(3,.pointer (some ⟨b1,0,none⟩)),(4,.pointer (some ⟨b8,0,none⟩)),(9,.int .u8 k),(38,.bool (decide (k=50\/k=51)))]) (fun _ w'=>w'=u2) ?_ ?_
 . focus
    refine eK ?_;refine Ay rfl (fun ap=>?_) (fun ap=>?_);refine Am ?_;rotate_left;refine Aj (C1 V1 (C1 Pa (Ak ?_)));rotate_left
   all_goals exact B8 () (AQ rfl (AQ rfl (AQ rfl (AQ rfl (Bx rfl (congrArg Value.bool (decide_eq_decide.2 Ab)) Cy))))) rfl
 rintro-u3 h;subst h
 focus
  refine Ay rfl (fun aq=>?_) (fun aq=>?_);rotate_left;refine eK ?_;refine xR ?_;rotate_left
 . have O:B7 g.procs v k s l.length=Nr g.procs s l.length:=by unfold B7;rw [As Ab,As Ab,As Ab,As Ab,AG Ab]
   rw [O];unfold Nr;have N:=bU (HP.out (· < w.heap.size) va vc pa pc ma mc);unfold GO at N;cases hq:Cf g.procs s with
   | none=>
    rw [hq] at N;dsimp only at N;refine eK ?_;refine cC rfl (N.out _ Ae) ?_;rintro _ bd ⟨⟨⟩,ar⟩;revert G M L X F;refine eY ar ?_;intro be G M L X F;refine eK ?_;refine xR ?_;exact ⟨rfl,X⟩
   | some i=>
    rw [hq] at N;dsimp only at N;have hi:=Q1 hq;obtain ⟨kb,ko,rfl,kS,U⟩:=F.get (by intro e;rw [e] at hi;simp at hi);obtain ⟨qa,qc,ba,bc,Y,-,-⟩:=U i g.procs[i] (bT hi);have hm:((g.procs[i]?.map fun p=>p.params.length).getD 0)=g.procs[i].params.length:=by rw [bT hi];rfl
    dsimp only;rw [hm];clear U hm hq;generalize g.procs[i]=y at *
    focus
     refine eK ?_;refine cC rfl (N.out _ Ae) ?_;rintro _ Z ⟨⟨⟩,au⟩;revert G L X M F Y;refine eY au ?_;intro bf G L X M F Y;refine eK ?_;refine Ar (fun wz=>Ext Z wz) 10 (.pure 0 (.pure 1 (.pure 2 (.pure 3 (.pure 4 (.pure 5 (.pure 6 (.pure 7 (.pure 8 (.pure 9 .tail)))))))))) mixed A9 (Aa (Al (Aa Ah))) ?_;intro av aa _;have V:(fun wz=>Ext Z wz) av:=aa;simp only at V;have aw:=G;have az:=L;have a0:=M;have ax:=F;have ab:=Y;revert G L X M F Y;refine eY aa ?_;intro bg G L X M F Y;refine ⟨V,?_⟩;refine eT ?_;refine Tq rfl (Dr ab) (Tq rfl Pz ?_);refine At rfl ?_;refine eK ?_;refine BU rfl (fun ay=>?_) (fun ay=>?_);refine eK ?_;refine xR ?_;rotate_left;refine eK ?_;refine xR ?_;rotate_left
    . rw [As Ab];exact ⟨rfl,X⟩
    . rw [AG Ab];exact ⟨rfl,X⟩
 . have O:B7 g.procs v k s l.length=0:=by unfold B7;rw [As Ab,As Ab,As Ab,As Ab,As Ab]
   rw [O];exact ⟨rfl,X⟩
set_option maxHeartbeats 8000000 in
def Q2 (g:PG) (hg:g.procs.length<=1000000) (k n:Int) (s:lB) (l:List Nd) (hl:l.length<=1000000) (i:Nat) (hi:i<l.length) (v:List VD) (hv:v.length<=1000000) (S S' bt:nP) (va:oA) (vc:Nat) (pa:oA) (pc:Nat) (ma:oA) (mc:Nat) (ka:oA) (kc:Nat) (a:oA) (c:Nat) (w:wD) (h:PDs S w g.procs pa) (ak:rowSits bt w l ka) (G:VDs S' w v a) :
 Calls prog 59 #[.agg (g.cells va vc pa pc ma mc).toArray,(Nd.mk k n s l).val ka kc,.int .i64 i,.slice a v.length c] w fun e w'=>e = .returned (.int .i64 (Pv g.procs v s l.length i (l[i]'hi).name))/\Ext w w':=by
 have X:=eU w;have h:=h.ltA;have ak:=BV _ _ ak;obtain ⟨xb,xo,rfl,xS,ao⟩:=BA ak (by intro e;subst e;simp at hi);obtain ⟨xa,xc,F,-⟩:=ao i l[i] (bT hi);clear ao ak;have HF:=bU (OL v hv (l[i]).name);have HP:=bU (OS g hg s (· < w.heap.size) va vc pa pc ma mc);unfold GO at HP;unfold Pv;generalize l[i]=x at *;show Calls prog 59 #[.agg (g.cells va vc pa pc ma mc).toArray,.agg #[.int .u8 k,.int .i64 n,str s,.slice (some ⟨xb,xo,none⟩) l.length kc],.int .i64 i,.slice a v.length c] w _;generalize Ep v x.name=o at *;cases o with
 | none=>
  dsimp only [Option.isSome,Option.getD] at HF;refine Ac func59 ntmps59 rfl rfl ?_;refine cS (eB [_,_,_,_,_,_] ?_);intro b1 w2 h4 x5 p6 z7;revert G X h F;refine eE x5 ?_;intro G X h F;refine eB [_,_,_,_] ?_;intro b8 w9 al bu da db;revert h4 G X h F;refine eE bu ?_;intro h4 G X h F;refine eK ?_;refine C1 (Pw F) (cC rfl (HF.out _ _ _ _ Ae) ?_);rintro _ dc ⟨⟨⟩,bv⟩;revert al h4 G X h F;refine eY bv ?_;intro dd al h4 G X h F;refine eK ?_;refine xA [_,_,_] ?_;intro de df bw;refine eI [_,_,_] bw ?_;intro dg dh bx di dm;revert al h4 G X h F;refine eE bx ?_;intro al h4 G X h F;refine eK ?_;refine xR ?_;exact ⟨rfl,X⟩
 | some d=>
  obtain ⟨dn,dk,dl⟩:=d;dsimp only [Option.isSome,Option.getD] at HF ⊢;cases hq:Cf g.procs s with
  | none=>
   rw [hq] at HP;dsimp only [Option.bind] at HP ⊢;refine Ac func59 ntmps59 rfl rfl ?_;refine cS (eB [_,_,_,_,_,_] ?_);intro dp dq Y bz dr ds;revert G X h F;refine eE bz ?_;intro G X h F;refine eB [_,_,_,_] ?_;intro dt du M a3 b4 b5;revert Y G X h F;refine eE a3 ?_;intro Y G X h F;refine eK ?_;refine C1 (Pw F) (cC rfl (HF.out _ _ _ _ Ae) ?_);rintro _ b6 ⟨⟨⟩,a4⟩;revert M Y G X h F;refine eY a4 ?_;intro b7 M Y G X h F;refine eK ?_;refine xA [_,_,_] ?_;intro b9 ca aa;refine Dd [_,_,_] Ad rfl rfl rfl rfl rfl rfl aa rfl ?_;intro cb aa;have ab:=aa.blk;dsimp only at ab;have a5:=aa.ext;have cc:=aa.pos;have cd:=aa.size;revert M Y G X h F;refine eE a5 ?_;intro M Y G X h F;refine eK ?_;refine cC rfl (HP.out _ Ae) ?_;rintro _ ap ⟨⟨⟩,a6⟩;revert ab M Y G X h F;refine eY a6 ?_;intro ce ab M Y G X h F;refine eK ?_;refine Ar (fun wz=>Ext ap wz) 13 (.pure 0 (.pure 1 (.pure 2 (.pure 3 (.pure 4 (.pure 5 (.pure 6 (.pure 7 (.pure 8 (.pure 9 (.pure 10 (.pure 11 (.pure 12 .tail))))))))))))) mixed A9 (Aa (Aa Ah)) ?_;intro a7 aq _;have af:(fun wz=>Ext ap wz) a7:=aq;simp only at af;have bp:=ab;have bq:=M;have b0:=Y;have ar:=G;have ag:=h;have au:=F;revert ab M Y G X h F;refine eY aq ?_;intro cf ab M Y G X h F;refine ⟨af,?_⟩;refine Tq rfl Mv (Tq rfl V3 (Tq rfl Mv (eM rfl (eM rfl (eM rfl (eM rfl (eM rfl (eM rfl (eM rfl (eM rfl (eM rfl ?_)))))))))));refine eM rfl ?_;refine At rfl ?_;refine eK ?_;refine xR ?_
   exact ⟨rfl,X⟩
  | some j=>
   rw [hq] at HP;have hj:=Q1 hq;dsimp only [Option.bind] at HP ⊢;rw [bT hj];dsimp only;obtain ⟨kb,ko,rfl,kS,av⟩:=h.get (by intro e;rw [e] at hj;simp at hj);obtain ⟨qa,qc,ba,bc,N,a0,-⟩:=av j g.procs[j] (bT hj);clear av hq;generalize g.procs[j]=y at *;by_cases hm:l.length=y.params.length
   . rw [As Ab];obtain ⟨zb,zo,rfl,zS,a8⟩:=a0.get (by intro e;rw [e] at hm;simp only [dD] at hm;omega);have r1:=a8 i (y.params[i]'(by omega)) (bT Ab);rw [bT Ab];dsimp only;clear a8 a0;generalize y.params[i]'(by omega)=q at *;obtain ⟨qn,qk,ql⟩:=q;replace r1:Row w ⟨zb,zo+i*3,none⟩ [str qn,.int .u8 qk,.int .i64 ql]:=r1;dsimp only;refine Ac func59 ntmps59 rfl rfl ?_
     focus
      refine cS (eB [_,_,_,_,_,_] ?_);intro dv dw U b2 dx dy;revert G X F h N r1;refine eE b2 ?_;intro G X F h N r1;refine eB [_,_,_,_] ?_;intro dz d0 L a9 cg ch;revert U G X F h N r1;refine eE a9 ?_;intro U G X F h N r1;refine eK ?_;refine C1 (Pw F) (cC rfl (HF.out _ _ _ _ Ae) ?_);rintro _ ci ⟨⟨⟩,bb⟩;revert L U G X F h N r1;refine eY bb ?_;intro cj L U G X F h N r1;refine eK ?_;refine xA [_,_,_] ?_;intro ck cl ac;refine Dd [_,_,_] Ad rfl rfl rfl rfl rfl rfl ac rfl ?_;intro cm ac;have V:=ac.blk;dsimp only at V;have bd:=ac.ext;have cn:=ac.pos;have co:=ac.size;revert L U G X F h N r1;refine eE bd ?_;intro L U G X F h N r1;refine eK ?_;refine cC rfl (HP.out _ Ae) ?_;rintro _ aw ⟨⟨⟩,be⟩;revert V L U G X F h N r1;refine eY be ?_;intro cp V L U G X F h N r1;refine eK ?_;refine Ar (fun wz=>Ext aw wz) 13 (.pure 0 (.pure 1 (.pure 2 (.pure 3 (.pure 4 (.pure 5 (.pure 6 (.pure 7 (.pure 8 (.pure 9 (.pure 10 (.pure 11 (.pure 12 .tail))))))))))))) mixed A9 (Aa (Aa Ah)) ?_;intro bf ax _;have ah:(fun wz=>Ext aw wz) bf:=ax;simp only at ah;have br:=V;have am:=L;have a1:=U;have ar:=G;have au:=F;have ag:=h;have ai:=N;have cq:=r1;revert V L U G X F h N r1;refine eY ax ?_;intro cr V L U G X F h N r1;refine ⟨ah,?_⟩;refine Tq rfl Mv (Tq rfl V3 (Tq rfl Mv (eN rfl (AO Ad rfl rfl rfl) (eN rfl (An Ad rfl rfl rfl (fun wz hz=>fD (fH am hz) rfl)) (eN rfl (Cp Ad rfl rfl) (eN rfl (AO Ad rfl rfl rfl) (eN rfl (An Ad rfl rfl rfl (fun wz hz=>fD (fH a1 hz) rfl)) (eN rfl (AL rfl) (eN rfl (Bf Ad rfl rfl rfl rfl Ab Ab) (eN rfl (AO Ad rfl rfl rfl) (eN rfl (An Ad rfl rfl rfl (fun wz hz=>Row.at (fL ai hz) rfl)) ?_)))))))))));refine eN rfl (Cp Ad rfl rfl) ?_;refine At rfl ?_;refine eK ?_;refine C1 (Pw N) ?_;refine eK ?_;refine xA [_,_,_] ?_;intro ct cu bg;refine eI [_,_,_] bg ?_
      intro cv cw bh cx cy;revert V L U G X F h N r1;refine eE bh ?_;intro V L U G X F h N r1;refine eK ?_;refine C6 rfl rfl rfl (fun bi=>?_) (fun bi=>?_);refine eK ?_;refine xR ?_;rotate_left;refine eK ?_;refine BU rfl (fun bj=>?_) (fun bj=>?_);refine eK ?_;refine xR ?_;rotate_left;refine eK ?_;refine xR ?_;rotate_left
     all_goals exact ⟨by simp [*],X⟩
   . rw [AG Ab];clear a0;refine Ac func59 ntmps59 rfl rfl ?_;refine cS (eB [_,_,_,_,_,_] ?_);intro d1 d2 Z b3 d3 d4;revert G X F h N;refine eE b3 ?_;intro G X F h N;refine eB [_,_,_,_] ?_;intro d5 d6 O bk cz c0;revert Z G X F h N;refine eE bk ?_;intro Z G X F h N;refine eK ?_;refine C1 (Pw F) (cC rfl (HF.out _ _ _ _ Ae) ?_);rintro _ c1 ⟨⟨⟩,bl⟩;revert O Z G X F h N;refine eY bl ?_;intro c2 O Z G X F h N;refine eK ?_;refine xA [_,_,_] ?_;intro c3 c4 ad;refine Dd [_,_,_] Ad rfl rfl rfl rfl rfl rfl ad rfl ?_;intro c5 ad;have ae:=ad.blk;dsimp only at ae;have bm:=ad.ext;have c6:=ad.pos;have c7:=ad.size;revert O Z G X F h N;refine eE bm ?_;intro O Z G X F h N;refine eK ?_;refine cC rfl (HP.out _ Ae) ?_;rintro _ ay ⟨⟨⟩,bn⟩;revert ae O Z G X F h N;refine eY bn ?_;intro c8 ae O Z G X F h N;refine eK ?_;refine Ar (fun wz=>Ext ay wz) 13 (.pure 0 (.pure 1 (.pure 2 (.pure 3 (.pure 4 (.pure 5 (.pure 6 (.pure 7 (.pure 8 (.pure 9 (.pure 10 (.pure 11 (.pure 12 .tail))))))))))))) mixed A9 (Aa (Aa Ah)) ?_;intro bo az _;have aj:(fun wz=>Ext ay wz) bo:=az;simp only at aj;have bs:=ae;have an:=O;have a2:=Z;have ar:=G;have au:=F;have ag:=h;have ai:=N;revert ae O Z G X F h N;refine eY az ?_;intro c9 ae O Z G X F h N;refine ⟨aj,?_⟩;refine Tq rfl Mv (Tq rfl V3 (Tq rfl Mv (eN rfl (AO Ad rfl rfl rfl) (eN rfl (An Ad rfl rfl rfl (fun wz hz=>fD (fH an hz) rfl)) (eN rfl (Cp Ad rfl rfl) (eN rfl (AO Ad rfl rfl rfl) (eN rfl (An Ad rfl rfl rfl (fun wz hz=>fD (fH a2 hz) rfl)) (eN rfl (AL rfl) (eN rfl (Bf Ad rfl rfl rfl rfl Ab Ab) (eN rfl (AO Ad rfl rfl rfl) (eN rfl (An Ad rfl rfl rfl (fun wz hz=>Row.at (fL ai hz) rfl)) ?_)))))))))));refine eN rfl (Cp Ad rfl rfl) ?_;refine At rfl ?_;refine eK ?_;refine xR ?_
     all_goals exact ⟨rfl,X⟩
structure FS (c fb m:Nat) (w:wD) (v:Value):Prop where
 cell:Blk w fb [v]
 own:OwnQ (Im 4) w (fun _=>False) c 63 v (dJ m ())
 ne:v.ownBlock≠some fb
 le:c<=w.heap.size
structure Eff (fb:Nat) (w:wD) (v:Value) (w':wD) (v':Value):Prop where
 fr:Fr (fun k=>k=fb\/v.ownBlock=some k) w w'
 new : ∀g,v'.ownBlock=some g->v.ownBlock=some g\/w.heap.size<=g
def Eff.of_ext {F:Nat} {w w':wD} {v:Value} (x:Ext w w'):Eff F w v w' v:=⟨⟨x.os,x.tape,x.output,x.size,fun _ G _=>x.block G⟩,fun _ h=>bW h⟩
def Eff.trans {F:Nat} {w w1 L:wD} {v M v2:Value} (h:Eff F w v w1 M) (k:Eff F w1 M L v2):Eff F w v L v2:=by
 have O:=h.fr.size;refine ⟨⟨k.fr.os.trans h.fr.os,k.fr.tape.trans h.fr.tape,k.fr.output.trans h.fr.output,dV O k.fr.size,fun i U G=>?_⟩,fun g V=>?_⟩
 . refine (k.fr.block i Ab (fun e=>?_)).trans (h.fr.block i U G);rcases e with e|e
   . exact G (bW e)
   . rcases h.new i e with e|e
     . exact G (bX e)
     . omega
 . rcases k.new g V with N|N
   . exact h.new g N
   . exact bX Ab
def Kp (fb:Nat) (w:wD) (v:Value) (b:Nat):Prop:=b<w.heap.size/\b≠fb/\v.ownBlock≠some b
def Kp.eff {F:Nat} {w w':wD} {v G:Value} {b:Nat} (h:Kp F w v b) (k:Eff F w v w' G):Kp F w' G b:=by
 have:=k.fr.size;refine ⟨by have:=h.1;omega,h.2.1,fun e=>?_⟩;rcases k.new b e with e|e
 . exact h.2.2 e
 . have:=h.1;omega
def Kp.grow {F:Nat} {w w':wD} {v:Value} {b:Nat} (h:Kp F w v b) (G:w.heap.size<=w'.heap.size):Kp F w' v b:=⟨Nat.lt_of_lt_of_le h.1 G,h.2⟩
def Kp.not {F:Nat} {w:wD} {v:Value} {b:Nat} (h:Kp F w v b) : ¬(b=F\/v.ownBlock=some b):=fun e=>e.elim h.2.1 h.2.2
def FS.ext {c F m:Nat} {w w':wD} {v:Value} (h:FS c F m w v) (x:Ext w w'):FS c F m w' v:=⟨h.cell.ext x,h.own.ext x,h.ne,dV h.le x.size⟩
instance {c F m:Nat} {w w':wD} {v:Value}:LfE w w' (FS c F m w v) (FS c F m w' v):=⟨fun x h=>Bk.FS.ext h x⟩
def FS.fr {c F m:Nat} {S:nP} {w w':wD} {v:Value} (h:FS c F m w v) (x:Fr S w w') (G : ∀k,S k->k≠F/\v.ownBlock≠some k):FS c F m w' v:=⟨h.cell.fr x (fun e=>(G _ e).1 rfl),h.own.fr x (fun k L=>⟨id,(G k L).2⟩),h.ne,dV h.le x.size⟩
instance {c F m:Nat} {S:nP} {w w':wD} {v:Value}:LfF S w w' (FS c F m w v) (∀k,S k->k≠F/\v.ownBlock≠some k) (FS c F m w' v):=⟨fun x s h=>Bk.FS.fr h x s⟩
def RepR (c fb m:Nat) (w:wD) (v:Value):Ending->wD->Prop:=fun e w'=>e = .returned (.tuple #[]) /\ ∃v',FS c fb m w' v'/\Fr (fun k=>k=fb\/v.ownBlock=some k) w w' /\ ∀g,v'.ownBlock=some g->v.ownBlock=some g\/w.heap.size<=g
def RepR.ret {c F m:Nat} {w:wD} {v:Value} {e:Ending} {w':wD} (h:RepR c F m w v e w') : ∃v,e = .returned v:=⟨_,h.1⟩
def Ip (c fb m:Nat) (v:Value) (p Z:Int) (s:lB) (S:nP) (pa:oA) (pn pc:Nat) (w:wD) (hm:m<=1000000000) (hn:pn<=1000000) (hp:PathAt S w pa pn pc) (hf:FS c fb m w v) :
 Calls prog 26 #[.int .i64 p,.slice pa pn pc,str s,.int .i64 Z,.pointer (some ⟨fb,0,none⟩)] w (RepR c fb (m+Ou Z) w v):=by
 obtain ⟨N,Y,ac,hc⟩:=hf;have HC:=bU (fun (w:wD) (h:PathAt S w pa pn pc)=>h.clone hn);have X:=eU w;by_cases he:Z=0
 . subst he;have e0:m+Ou 0=m:=rfl;rw [e0];refine Ac func26 ntmps26 rfl rfl ?_;refine cS (C1 Mv (C1 V2 (cT (Np (Am (Bs rfl ?_))))));exact ⟨rfl,v,⟨N,Y,ac,by have:=X.size;omega⟩,(Eff.of_ext X).fr,fun _ h=>bW h⟩
 . have e1:Ou Z=1:=As he;rw [e1];have ad : ∀g,v.ownBlock=some g->g<w.heap.size/\g≠fb:=fun g hg=>⟨Y.lt hg,fun e=>ac (e▸hg)⟩
   have a2:=N.lt;have ae:dJ m ()++[()]=dJ (m+1) ():=by rw [List.replicate_succ']
   have ak:(dJ m ()).length<=1000000000:=by simp;omega
   have O:=fC (fun k=>k=fb\/v.ownBlock=some k) w;refine Ac func26 ntmps26 rfl rfl ?_;refine eK ?_;refine Ar (fun wz=>Ext w wz) 8 (.pure 0 (.pure 1 (.pure 2 (.pure 4 (.pure 5 (.fork 3 (.pure 6 (.fork 7 .tail .none)) .none)))))) mixed A9 Ah ?_;intro ai af _;have F:(fun wz=>Ext w wz) ai:=af;simp only at F;have al:=hp;have am:=N;have an:=Y;revert hp N Y X O;refine eY af ?_;intro a3 hp N Y X O;refine ⟨F,?_⟩;refine eT ?_;refine tC rfl rfl (HC.out _ Ae) ?_;rintro _ a4 ⟨a5,⟨a6,⟨⟨⟩,aj⟩⟩⟩;revert F hp N Y X O;refine eY aj ?_;intro ao F hp N Y X O;refine ⟨F,?_⟩;refine Tq rfl (xB [_,_,_,_]) ?_;refine Ax rfl (xS [_,_,_,_]) rfl ?_ aFh Aw;rintro _ ap ⟨aq,rfl,G,ar⟩;have L:=G.blk;have ag:=G.ext;have au:=G.pos;have av:=G.size;revert F hp N Y X O;refine eE ag ?_;intro F hp N Y X O;refine ⟨F,?_⟩;refine At rfl ?_;refine AC (J0 (R:=fun _=>False) (sh:=Im 4) (z:=()) Ad CY rfl rfl rfl rfl A9 rfl rfl rfl Ae (fun _ h=>by exact h) (fN Ae) ⟨rfl,rfl⟩ Ab Ab) rfl ?_ aFh;rintro _ aw ⟨U,⟨ah,⟨rfl,⟨aa,⟨V,⟨ax,M⟩⟩⟩⟩⟩⟩;have ay:=M.size;have L:=fB L M (fun h=>by have:=ad _ h;omega);clear hp;have N:=fB N M (fun h=>by have:=ad _ h;omega);clear Y;have O:=fJ O M (fun k hk=>bW (bX hk));refine eS [_] N ?_;intro az a0 ab a1;clear N;have aa:=OwnQ.fr aa ab (fun k hk=>⟨id,fun e=>by (obtain rfl:=cD (show some U=some k from e);rcases V with h|h;have:=ad _ h;omega;omega)⟩);revert L O;refine eF ab ?_;intro L O;refine Ak (Bs rfl ?_)
   have a7:=O.size;refine ⟨rfl,_,⟨Ae,by rw [<-ae];assumption,fun e=>?_,Ab⟩,O,fun g hg=>?_⟩
   . obtain rfl:=cD (show some U=some fb from e);rcases V with h|h
     . exact ac h
     . omega
   obtain rfl:=cD (show some U=some g from hg);rcases V with h|h
   . exact bW h
   . exact bX Ab
def WJ (c fb:Nat) (rf:FuncId) (ca:lV) (E:wD->Value->Prop):Prop:=
 (∀w v w' v',E w v->Eff fb w v w' v'->E w' v') /\
 ∀(m:Nat) (v:Value) (err:Int) (s:lB) (S:nP) (pa:oA) (pn pc:Nat) (w:wD),m<=1000000000->pn<=1000000->PathAt S w pa pn pc->FS c fb m w v->E w v ->
  Calls prog rf ([.slice pa pn pc,str s,.int .i64 err]++ca).toArray w (RepR c fb (m+Ou err) w v)
def MI (fb:Nat):Value:=.func (.func 26) #[] #[.pointer (some ⟨fb,0,none⟩)]
def UR (c F L M:Nat) (i:Int):WJ c F 31 [.pointer (some ⟨L,0,none⟩),.pointer (some ⟨M,0,none⟩)] (fun w v=>Blk w L [MI F]/\Blk w M [.int .i64 i]/\Kp F w v L/\Kp F w v M):=by
 refine ⟨fun w v w' v' ⟨N,O,h3,U⟩ k=>⟨N.fr k.fr h3.not,O.fr k.fr U.not,h3.eff k,U.eff k⟩,?_⟩;rintro m v G s S X Y Z w hm hn hp hf ⟨N,O,-,-⟩;have HR:=bU (Ip c F m v i G s S X Y Z w hm hn hp hf);unfold MI at N;clear hp hf;show Calls prog 31 #[.slice X Y Z,str s,.int .i64 G,.pointer (some ⟨L,0,none⟩),.pointer (some ⟨M,0,none⟩)] w _;have V:=fC (fun k=>k=F\/v.ownBlock=some k) w;refine Ac func31 ntmps31 rfl rfl ?_;refine eK ?_;refine AC (Bv (fi:=[]) (ca:=[.pointer (some ⟨F,0,none⟩)]) A9 rfl rfl HR.out (fun _ _ h=>h.ret)) rfl ?_ aFh;rintro _ w5 ⟨⟨⟩,⟨aa,⟨O,⟨f3,U⟩⟩⟩⟩;have z6:=f3.size;have V:=fJ V f3 (fun k hk=>bW hk);refine Ak (Bs rfl ?_);exact ⟨rfl,_,Ae,V,Ae⟩
def US (c F L M:Nat) (g:PG) (va:oA) (vc:Nat) (N:oA) (O:Nat) (ma:oA) (mc:Nat):WJ c F 32 [.pointer (some ⟨L,0,none⟩),.pointer (some ⟨M,0,none⟩)] (fun w v=>Blk w L [MI F]/\Blk w M (g.cells va vc N O ma mc)/\Kp F w v L/\Kp F w v M):=by
 refine ⟨fun w v w' v' ⟨U,V,h3,X⟩ k=>⟨U.fr k.fr h3.not,V.fr k.fr X.not,h3.eff k,X.eff k⟩,?_⟩;rintro m v G s S Z pn pc w hm hn hp hf ⟨U,V,-,-⟩;have HR:=bU (Ip c F m v g.procs.length G s S Z pn pc w hm hn hp hf);unfold MI at U;clear hp hf;show Calls prog 32 #[.slice Z pn pc,str s,.int .i64 G,.pointer (some ⟨L,0,none⟩),.pointer (some ⟨M,0,none⟩)] w _;have Y:=fC (fun k=>k=F\/v.ownBlock=some k) w;refine Ac func32 ntmps32 rfl rfl ?_;refine eK ?_;refine AC (Bv (fi:=[]) (ca:=[.pointer (some ⟨F,0,none⟩)]) A9 rfl rfl HR.out (fun _ _ h=>h.ret)) rfl ?_ aFh;rintro _ w5 ⟨⟨⟩,⟨aa,⟨V,⟨f3,X⟩⟩⟩⟩;have z6:=f3.size;have Y:=fJ Y f3 (fun k hk=>bW hk);refine Ak (Bs rfl ?_);exact ⟨rfl,_,Ae,Y,Ae⟩
def Pc (e:Int):Ou e<=1:=by unfold Ou;split<;>omega
def MJ (ps:List PD) (v:List VD) (s:lB) (m:Nat) : ∀(l:List Nd) (i:Nat),Gh ps v s m i l<=l.length
 | [],_=>by simp [Gh]
 | t::r,i=>by
  have:=Pc (Pv ps v s m i t.name);have:=MJ ps v s m r (i+1);simp only [Gh,cF];omega
mutual
def Ss (ps:List PD) : ∀(t:Nd) (v:List VD),t.flt ps v<=t.size
 | .mk k n s l,v=>by
  have h1:=Pc (B7 ps v k s l.length);have h2:=MJ ps v s l.length l 0;have h3:=C0 l;have h4:=KE ps l v k s 0;simp only [Nd.flt,fF];split<;>omega
def KE (ps:List PD) : ∀(l:List Nd) (v:List VD) (k:Int) (s:lB) (i:Nat),CP ps v k s i l<=Aq l
 | [],_,_,_,_=>by simp [CP]
 | t::r,v,k,s,i=>by
  have:=Ss ps t (Cr k s i v);have:=KE ps r v k s (i+1);simp only [CP,Aq];omega
end
def K3 (ps:List PD) (v:List VD) (k:Int) (s:lB) : ∀(l:List Nd) (j i:Nat) (h:j<l.length),CP ps v k s i (l.take (j+1))=CP ps v k s i (l.take j)+(l[j]).flt ps (Cr k s (i+j) v)
 | t::r,0,i,_=>by simp [CP]
 | t::r,j+1,i,h=>by
  simp only [List.take_succ_cons,CP,List.getElem_cons_succ];rw [K3 ps v k s r j (i+1) (by simpa using h)];rw [show i+1+j=i+(j+1) by omega];omega
def MK (ps:List PD) (v:List VD) (s:lB) (m:Nat) : ∀(l:List Nd) (j i:Nat) (h:j<l.length),Gh ps v s m i (l.take (j+1))=Gh ps v s m i (l.take j)+Ou (Pv ps v s m (i+j) (l[j]).name)
 | t::r,0,i,_=>by simp [Gh]
 | t::r,j+1,i,h=>by
  simp only [List.take_succ_cons,Gh,List.getElem_cons_succ];rw [MK ps v s m r j (i+1) (by simpa using h)];rw [show i+1+j=i+(j+1) by omega];omega
def I0 : ∀(l:List Nd) {j:Nat} (h:j<l.length),Aq (l.take j)+l[j].size<=Aq l
 | t::r,0,_=>by simp [Aq]
 | t::r,j+1,h=>by
  have:=I0 r (j:=j) (by simpa using h);simp only [List.take_succ_cons,Aq,List.getElem_cons_succ];omega
set_option maxHeartbeats 8000000 in
def Q3 (c fb:Nat) (dx:c<=fb) (rf:FuncId) (ca:lV) (bs:CO prog rf=true) (E:wD->Value->Prop) (hR:WJ c fb rf ca E) (g:PG) (hg:g.procs.length<=1000000) (va:oA) (vc:Nat) (pa:oA) (pc:Nat) (ma:oA) (mc:Nat) (N:Nat) :
 ∀(t:Nd) (vs:List VD) (Sv Sp:nP) (ta:oA) (tc:Nat) (la:oA) (lc:Nat) (qa:oA) (qn qc:Nat) (w:wD) (v:Value) (m:Nat),t.size<N->vs.length+t.size<=1000000->qn+t.size<=1000000->m+t.size<=1000000000->t.sits (· < c) w ta->PDs (· < c) w g.procs pa->VDs Sv w vs la->vs.length<=lc->PathAt Sp w qa qn qc->(∀b,Sv b->Kp fb w v b)->(∀b,Sp b->Kp fb w v b)->FS c fb m w v->E w v ->
  Calls prog 30 #[.agg (g.cells va vc pa pc ma mc).toArray,t.val ta tc,.slice qa qn qc,.slice la vs.length lc,.func (.func rf) #[] ca.toArray] w (RepR c fb (m+t.flt g.procs vs) w v):=by
 induction N with
 | zero=>intro t vs Sv Sp ta tc la lc qa qn qc w v m h;omega
 | succ N ih=>
  rintro ⟨k,n,s,l⟩ vs Sv Sp ta tc la lc qa qn qc w v m hN co cp cq O F G bh L bi bj hF hE;have hz:(Nd.mk k n s l).size=1+Aq l:=by rw [fF]
  have c5:=C0 l;rw [hz] at hN co cp cq;have IH:=bU ih;have au:=bU hR.1;have bt:=bU hR.2;have ba : ∀b,Sv b -> ¬(b=fb\/v.ownBlock=some b):=fun b U=>(bi b U).not
  have bb : ∀b,Sp b -> ¬(b=fb\/v.ownBlock=some b):=fun b U=>(bj b U).not
  have al : ∀g,v.ownBlock=some g->c<=g/\g<w.heap.size:=fun g hg=>⟨hF.own.ge hg,hF.own.lt hg⟩
  have dy:=hF.cell.lt;have av:=bU bi;have a5:=bU bj;have bu:=bU (YD g hg k n s l ta tc vs Ab (· < c) Sv va vc pa pc ma mc la lc);have bc:=bU (fun (w':wD) (x:Ext w w') (p:PathAt Sp w' qa qn qc)=>bt.out m v (B7 g.procs vs k s l.length) s Sp qa qn qc w' Ab Ab p (hF.ext x) (au.out _ _ _ _ hE (Eff.of_ext x)));have bk:=bU hE;clear ih hR bi bj hE hF;have X:=eU w;have X2:=fC (fun k=>k=fb\/v.ownBlock=some k) w;have O:=E4 O;show Calls prog 30 #[.agg (g.cells va vc pa pc ma mc).toArray,.agg #[.int .u8 k,.int .i64 n,str s,.slice ta l.length tc],.slice qa qn qc,.slice la vs.length lc,.func (.func rf) #[] ca.toArray] w _;refine Ac func30 ntmps30 rfl rfl ?_;refine cS (eB [_,_,_,_,_,_] ?_);intro b1 w2 V x5 p6 z7;revert F G L X X2 O;refine eE x5 ?_;intro F G L X X2 O;refine eB [_,_,_,_] ?_;intro b8 w9 M cr dz d0;revert V F G L X X2 O;refine eE cr ?_;intro V F G L X X2 O;refine eK ?_;refine Ar (fun wz=>Ext w9 wz) 8 (.pure 0 (.pure 1 (.pure 2 (.pure 3 (.pure 4 (.pure 5 (.pure 6 (.fork 7 .tail .none)))))))) mixed A9 (Aa Ah) ?_;intro ct bv _;have ah:(fun wz=>Ext w9 wz) ct:=bv;simp only at ah;have af:=M;have ai:=V;have aw:=F;have ax:=G;have ay:=L;have bd:=O;revert M V F G L X X2 O;refine eY bv ?_;intro d1 M V F G L X X2 O;refine ⟨ah,?_⟩;refine eT ?_;refine Tq rfl (xL [_,_,_,_,_,_] (fun wz hz=>(fH ai hz))) (Tq rfl (xL [_,_,_,_] (fun wz hz=>(fH af hz))) (Tq rfl Mv ?_));refine tC rfl rfl (bu.out _ Ae Ae) ?_;rintro _ d2 ⟨⟨⟩,cu⟩;revert ah M V F G L X X2 O;refine eY cu ?_;intro z22 ah M V F G L X X2 O;refine ⟨ah,?_⟩;refine At rfl ?_;refine AC (Bv (fi:=[]) (ca:=ca) bs rfl rfl (bc.out _ Ae Ae) (fun _ _ h=>h.ret)) rfl ?_ aFh
  rintro _ a6 ⟨⟨⟩,⟨an,⟨a7,⟨aj,a8⟩⟩⟩⟩;have z28:=aj.size;have M:=fB M aj (fun h=>by (rcases h with h|h;omega;have:=al _ h;omega));have V:=fB V aj (fun h=>by (rcases h with h|h;omega;have:=al _ h;omega));have F:=PDs.fr F aj (fun b U h=>by (rcases h with h|h;omega;have:=al _ h;omega));have G:=gC G aj (ba);have L:=PathAt.fr L aj (bb);have X2:=fJ X2 aj (fun k hk=>bW hk);have O:=fO O aj (fun b U h=>by (rcases h with h|h;omega;have:=al _ h;omega));refine cT (Ai ?_);have e1:Eff fb w v a6 an:=⟨X2,fun g hg=>(a8 g hg).imp id fun h=>by omega⟩;have k1:Kp fb a6 an b1:=⟨V.lt,Ab,fun e=>by rcases a8 _ e with h|h;(have:=al _ h;omega);omega⟩;have k8:Kp fb a6 an b8:=⟨M.lt,Ab,fun e=>by rcases a8 _ e with h|h;(have:=al _ h;omega);omega⟩;have EE:=bU (au.out);have bw:=bU (au.out _ _ _ _ bk.out e1);have be:(Nd.mk k n s l).flt g.procs vs=Ou (B7 g.procs vs k s l.length)+(if k=50\/k=51 then Gh g.procs vs s l.length 0 l else CP g.procs vs k s 0 l):=by rw [Nd.flt]
  rw [be];have d3:=Pc (B7 g.procs vs k s l.length);clear be;generalize Ou (B7 g.procs vs k s l.length)=m0 at *;clear bc bu ba bb al a8 X2;generalize an=v1 at *;refine IA (ι:=Unit) (fun _=>[(2,.slice qa qn qc),(3,.slice la vs.length lc),(4,.func (.func rf) #[] ca.toArray),(5,.pointer (some ⟨b1,0,none⟩)),(6,.pointer (some ⟨b8,0,none⟩)),(30,.bool (decide (k=50\/k=51)))]) (fun _ w'=>w'=a6) ?_ ?_
  . focus
     refine eK ?_;refine C6 rfl rfl rfl (fun cv=>?_) (fun cv=>?_);refine Gb (Gb (Gb (C1 Rw (Ak ?_))));rotate_left;refine Ga (C1 Pg (Ga (C1 (Pl M) (Ga (C1 V1 (C1 Rk (Ak ?_)))))));rotate_left
    all_goals exact B8 () (AQ rfl (AQ rfl (AQ rfl (AQ rfl (AQ rfl (Bx rfl (congrArg Value.bool (by first|exact (decide_eq_true Ab).symm|exact decide_eq_decide.2 Ab)) Cy)))))) rfl
  rintro-w0 h;subst h;by_cases hk:k=50\/k=51
  . rw [AG hk];clear IH;refine Ph (Ai (cS (C1 Pf (C1 (Pl M) (C1 Pz (C1 Mv (cT ?_)))))));refine Av ?_;refine A1 (ι:=Nat×Value) (fun x=>[(2,.slice qa qn qc),(3,.slice la vs.length lc),(4,.func (.func rf) #[] ca.toArray),(5,.pointer (some ⟨b1,0,none⟩)),(6,.pointer (some ⟨b8,0,none⟩)),(32,.slice ta l.length tc),(33,.int .i64 l.length),(34,.int .i64 x.1)])
     (fun x w'=>x.1<=l.length/\FS c fb (m+m0+Gh g.procs vs s l.length 0 (l.take x.1)) w' x.2/\Eff fb w v w' x.2/\Kp fb w' x.2 b1/\Kp fb w' x.2 b8/\Blk w' b8 [.int .u8 k,.int .i64 n,str s,.slice ta l.length tc]/\Blk w' b1 (g.cells va vc pa pc ma mc)/\PDs (· < c) w' g.procs pa/\VDs Sv w' vs la/\PathAt Sp w' qa qn qc/\rowSits (· < c) w' l ta)
     (fun x=>l.length-x.1) (0,v1) sB ⟨cQ _,a7,e1,k1,k8,M,V,F,G,L,O⟩ ?_
    clear a7 e1 k1 k8 M V F G L O bw;rintro ⟨j,vj⟩ w3 ⟨hj,hF,e3,k1,k8,M,V,F,G,L,O⟩;simp only at hj hF e3 k1 k8 M V F G L O;by_cases ag:j<l.length
    . have Y : ∀g,vj.ownBlock=some g->c<=g/\g<w3.heap.size/\g≠b1/\g≠b8:=fun g hg=>⟨hF.own.ge hg,hF.own.lt hg,fun e=>k1.2.2 (e▸hg),fun e=>k8.2.2 (e▸hg)⟩
      have az : ∀b,Sv b -> ¬(b=fb\/vj.ownBlock=some b):=fun b U=>((av.out b U).eff e3).not
      have a0 : ∀b,Sp b -> ¬(b=fb\/vj.ownBlock=some b):=fun b U=>((a5.out b U).eff e3).not
      have a1 : ∀b,Sv b->b<w3.heap.size:=fun b U=>((av.out b U).eff e3).1
      have a2 : ∀b,Sp b->b<w3.heap.size:=fun b U=>((a5.out b U).eff e3).1
      have bl:=k1.not;have bm:=k8.not;have cw:=k1.1;have cx:=k8.1;have bx:=hF.cell.lt;have bn:=bU (EE.out _ _ _ _ bk.out e3);have bz:=MJ g.procs vs s l.length (l.take j) 0;rw [eH] at bz;have am:=MK g.procs vs s l.length l j 0 ag;rw [eJ] at am;obtain ⟨kb,ko,rfl,kS,ak⟩:=BA O (by intro e;subst e;simp at ag);obtain ⟨xa,xc,rx,-⟩:=ak j l[j] (bT ag);have b0:=bU (Q2 g hg k n s l Ab j ag vs Ab);have a3:=bU (fun (w':wD) (x:Ext w3 w') (S:nP) (pa:oA) (pn pc:Nat) (hp:pn<=1000000) (p:PathAt S w' pa pn pc)=>bt.out (m+m0+Gh g.procs vs s l.length 0 (l.take j)) vj (Pv g.procs vs s l.length j l[j].name) l[j].name S pa pn pc w' Ab hp p (hF.ext x) (au.out _ _ _ _ bn.out (Eff.of_ext x)));have E3:=bU e3;clear ak hF e3;have a4:m+m0+Gh g.procs vs s l.length 0 (l.take (j+1))=m+m0+Gh g.procs vs s l.length 0 (l.take j)+Ou (Pv g.procs vs s l.length j l[j].name):=by rw [am];omega
      rw [<-a4] at a3;clear am a4;generalize l[j]=x at *;generalize Pv g.procs vs s l.length j x.name=ex at *;have X3:=eU w3;have X4:=fC (fun k=>k=fb\/vj.ownBlock=some k) w3;refine eK ?_;refine eA [_,_,_,_] ?_;intro d4 d5 cy cz d6 d7;revert V F G L M O rx X3 X4;refine eE cz ?_;intro V F G L M O rx X3 X4;refine C1 Pa (eS [_,_,_,_] cy ?_);intro b2 ad ao c6;revert V F;refine eF ao ?_;intro V F;have G:=gC G ao (fun b U e=>by have:=a1 b U;omega);have L:=PathAt.fr L ao (fun b U e=>by have:=a2 b U;omega);revert M O rx X3 X4;refine eF ao ?_;intro M O rx X3 X4;refine cT (Ar (fun wz=>Ext b2 wz) 11 (.pure 0 (.pure 1 (.pure 2 (.pure 4 (.pure 5 (.pure 6 (.pure 7 (.pure 8 (.pure 9 (.fork 3 (.fork 10 .tail .none) .none)))))))))) mixed A9 (Al (Aa (Aa (Al (Aa (Aa Ah)))))) ?_);intro b3 bf _;have Z:(fun wz=>Ext b2 wz) b3:=bf;simp only at Z;have cn:=ad;have ai:=V;have aw:=F;have ax:=G;have ay:=L;have af:=M;have bd:=O;have b4:=rx;revert ad V F G L M O rx X3 X4;refine eY bf ?_;intro c7 ad V F G L M O rx X3 X4;refine ⟨Z,?_⟩;refine eT ?_;refine Tq rfl (xL [_,_,_,_,_,_] (fun wz hz=>(fH ai hz))) (Tq rfl (xL [_,_,_,_] (fun wz hz=>(fH af hz))) (Tq rfl Mv (Tq rfl Mv ?_)));refine tC rfl rfl (Tj _ _ _ _ _ _ Ab Ae) ?_
      rintro _ c8 ⟨c9,⟨da,⟨⟨⟩,⟨ap,b5⟩⟩⟩⟩;revert Z ad V F G L M O rx X3 X4;refine eY b5 ?_;intro db Z ad V F G L M O rx X3 X4;refine ⟨Z,?_⟩;refine tC rfl rfl (b0.out _ _ _ _ _ _ _ _ _ _ _ _ _ _ Ae Ae Ae) ?_;rintro _ dc ⟨⟨⟩,b6⟩;revert ap Z ad V F G L M O rx X3 X4;refine eY b6 ?_;intro dd ap Z ad V F G L M O rx X3 X4;refine ⟨Z,?_⟩;refine At rfl ?_;refine AC (Bv (fi:=[]) (ca:=ca) bs rfl rfl (a3.out _ Ae _ _ _ _ Ab Ae) (fun _ _ h=>h.ret)) rfl ?_ aFh;rintro _ b7 ⟨⟨⟩,⟨bo,⟨b9,⟨ac,cb⟩⟩⟩⟩;have de:=ac.size;have ap:=PathAt.fr ap ac (fun b U h=>by (rcases h with h|h;omega;have:=Y _ h;omega));have ad:=fB ad ac (fun h=>by (rcases h with h|h;omega;have:=Y _ h;omega));have V:=fB V ac (bl);have F:=PDs.fr F ac (fun b U h=>by (rcases h with h|h;omega;have:=Y _ h;omega));have G:=gC G ac (az);have L:=PathAt.fr L ac (a0);have M:=fB M ac (bm);have O:=fO O ac (fun b U h=>by (rcases h with h|h;omega;have:=Y _ h;omega));clear rx;have X4:=fJ X4 ac (fun k hk=>bW hk);refine Ak (Af (Ag (Aj (C1 V7 (C1 Mv (Ak ?_))))));have e4:Eff fb w3 vj b7 bo:=⟨X4,fun g hg=>(cb g hg).imp id fun h=>by omega⟩
      exact AI (j+1,_) sB ⟨by simp only;omega,b9,E3.out.trans e4,k1.eff e4,k8.eff e4,M,V,F,G,L,O⟩ (by simp only;omega)
    . obtain rfl:j=l.length:=by omega
      rw [dB] at hF;refine eK ?_;refine Oh rfl ?_;rw [<-Nat.add_assoc];exact ⟨rfl,vj,hF,e3.fr,e3.new⟩
  . rw [As hk];refine U4 (Am (Ag (cS (C1 Pf (C1 (Pl M) (C1 Pz (C1 Mv (cT ?_))))))));refine Av ?_;refine A1 (ι:=Nat×Value) (fun x=>[(2,.slice qa qn qc),(3,.slice la vs.length lc),(4,.func (.func rf) #[] ca.toArray),(5,.pointer (some ⟨b1,0,none⟩)),(6,.pointer (some ⟨b8,0,none⟩)),(53,.slice ta l.length tc),(54,.int .i64 l.length),(55,.int .i64 x.1)])
     (fun x w'=>x.1<=l.length/\FS c fb (m+m0+CP g.procs vs k s 0 (l.take x.1)) w' x.2/\Eff fb w v w' x.2/\Kp fb w' x.2 b1/\Kp fb w' x.2 b8/\Blk w' b8 [.int .u8 k,.int .i64 n,str s,.slice ta l.length tc]/\Blk w' b1 (g.cells va vc pa pc ma mc)/\PDs (· < c) w' g.procs pa/\VDs Sv w' vs la/\PathAt Sp w' qa qn qc/\rowSits (· < c) w' l ta)
     (fun x=>l.length-x.1) (0,v1) sB ⟨cQ _,a7,e1,k1,k8,M,V,F,G,L,O⟩ ?_
    clear a7 e1 k1 k8 M V F G L O bw;rintro ⟨j,vj⟩ w3 ⟨hj,hF,e3,k1,k8,M,V,F,G,L,O⟩;simp only at hj hF e3 k1 k8 M V F G L O;by_cases ag:j<l.length
    . have Y : ∀g,vj.ownBlock=some g->c<=g/\g<w3.heap.size/\g≠b1/\g≠b8:=fun g hg=>⟨hF.own.ge hg,hF.own.lt hg,fun e=>k1.2.2 (e▸hg),fun e=>k8.2.2 (e▸hg)⟩
      have az : ∀b,Sv b -> ¬(b=fb\/vj.ownBlock=some b):=fun b U=>((av.out b U).eff e3).not
      have a0 : ∀b,Sp b -> ¬(b=fb\/vj.ownBlock=some b):=fun b U=>((a5.out b U).eff e3).not
      have a1 : ∀b,Sv b->b<w3.heap.size:=fun b U=>((av.out b U).eff e3).1
      have a2 : ∀b,Sp b->b<w3.heap.size:=fun b U=>((a5.out b U).eff e3).1
      have bl:=k1.not;have bm:=k8.not;have cw:=k1.1;have cx:=k8.1;have bx:=hF.cell.lt;have df:=hF.le;have bn:=bU (EE.out _ _ _ _ bk.out e3);have d8:=KE g.procs (l.take j) vs k s 0;have am:=K3 g.procs vs k s l j 0 ag;rw [eJ] at am;have d9:=I0 l ag;obtain ⟨kb,ko,rfl,kS,ak⟩:=BA O (by intro e;subst e;simp at ag);obtain ⟨xa,xc,rx,sx⟩:=ak j l[j] (bT ag);have dg:(Cr k s j vs).length<=vs.length+1:=by unfold Cr;split<;>(try split)<;>simp
      have HV:=bU (fun (w':wD) (x:Ext w3 w') (bp bq:nP) (cc:oA) (cd:Nat) (ce:oA) (cf:Nat) (O:(l[j]).sits (· < c) w' xa) (F:PDs (· < c) w' g.procs pa) (G:VDs bp w' (Cr k s j vs) cc) (bh:(Cr k s j vs).length<=cd) (L:PathAt bq w' ce (qn+1) cf) (c0 : ∀b,bp b->Sv b\/(w3.heap.size<=b/\b<w'.heap.size)) (c1 : ∀b,bq b->w3.heap.size<=b/\b<w'.heap.size)=>
       IH.out l[j] (Cr k s j vs) bp bq xa xc cc cd ce (qn+1) cf w' vj (m+m0+CP g.procs vs k s 0 (l.take j)) Ab Ab Ab Ab O F G bh L
        (fun b U=>by
         rcases c0 b U with h|h
         . exact ((av.out b h).eff e3).eff (Eff.of_ext x)
         . exact ⟨h.2,Ab,fun e=>by have:=Y _ e;omega⟩)
        (fun b U=>by have h:=c1 b U;exact ⟨h.2,Ab,fun e=>by have:=Y _ e;omega⟩) (hF.ext x) (au.out _ _ _ _ bn.out (Eff.of_ext x)))
      have a4:m+m0+CP g.procs vs k s 0 (l.take (j+1))=m+m0+CP g.procs vs k s 0 (l.take j)+(l[j]).flt g.procs (Cr k s j vs):=by rw [am];omega
      rw [<-a4] at HV;have c2:=bU (YC k n s l (some ⟨kb,ko,none⟩) tc j vs Ab Sv la lc);have E3:=bU e3;clear ak hF e3 am a4;generalize Cr k s j vs=ea at *;generalize l[j]=x at *;have X3:=eU w3;have X4:=fC (fun k=>k=fb\/vj.ownBlock=some k) w3;refine eK ?_;refine eA [_,_,_,_] ?_;intro eb ec c3 c4 ed ee;revert V F G L M O rx sx X3 X4;refine eE c4 ?_;intro V F G L M O rx sx X3 X4;refine C1 Pa (eS [_,_,_,_] c3 ?_);intro cg ae aq dh;revert V F;refine eF aq ?_;intro V F;have G:=gC G aq (fun b U e=>by have:=a1 b U;omega);have L:=PathAt.fr L aq (fun b U e=>by have:=a2 b U;omega);revert M O rx sx X3 X4;refine eF aq ?_;intro M O rx sx X3 X4;refine cT (Ar (fun wz=>Ext cg wz) 10 (.pure 0 (.pure 1 (.pure 2 (.pure 3 (.pure 5 (.pure 6 (.pure 7 (.pure 9 (.fork 4 (.fork 8 .tail .none) .none))))))))) mixed A9 (Al (Aa (Aa (Al Ah)))) ?_);intro ch bg _;have aa:(fun wz=>Ext cg wz) ch:=bg;simp only at aa;have a9:=ae;have ai:=V;have aw:=F;have ax:=G;have ay:=L;have af:=M;have bd:=O;have b4:=rx;have di:=sx;revert ae V F G L M O rx sx X3 X4;refine eY bg ?_;intro dk ae V F G L M O rx sx X3 X4;refine ⟨aa,?_⟩;refine Tq rfl (xL [_,_,_,_,_,_] (fun wz hz=>(fH ai hz))) (Tq rfl (xL [_,_,_,_] (fun wz hz=>(fH a9 hz))) (Tq rfl Mv (Tq rfl Mv (Tq rfl (xL [_,_,_,_] (fun wz hz=>(fH af hz))) ?_))))
      refine eT ?_;refine tC rfl rfl (Tj _ _ _ _ _ _ Ab Ae) ?_;rintro _ dl ⟨dm,⟨dn,⟨⟨⟩,⟨ar,ci⟩⟩⟩⟩;revert aa ae V F G L M O rx sx X3 X4;refine eY ci ?_;intro dp aa ae V F G L M O rx sx X3 X4;refine ⟨aa,?_⟩;refine tC rfl rfl (c2.out _ bh Ae) ?_;rintro _ dq ⟨dr,⟨ds,⟨⟨⟩,⟨dt,⟨du,cj⟩⟩⟩⟩⟩;revert ar aa ae V F G L M O rx sx X3 X4;refine eY cj ?_;intro dv ar aa ae V F G L M O rx sx X3 X4;refine ⟨aa,?_⟩;refine At rfl (cC rfl (HV.out _ Ae _ _ _ _ _ _ Ae Ae Ae Ab Ae (by (intro b U;rcases U with U|U;exact bW U;exact bX ⟨Ab,Ab⟩)) (by (intro b U;exact ⟨Ab,Ab⟩))) ?_);rintro _ ck ⟨⟨⟩,⟨br,⟨cl,⟨ab,cm⟩⟩⟩⟩;have dw:=ab.size;have ar:=PathAt.fr ar ab (fun b U h=>by (rcases h with h|h;omega;have:=Y _ h;omega));have ae:=fB ae ab (fun h=>by (rcases h with h|h;omega;have:=Y _ h;omega));have V:=fB V ab (bl);have F:=PDs.fr F ab (fun b U h=>by (rcases h with h|h;omega;have:=Y _ h;omega));have G:=gC G ab (az);have L:=PathAt.fr L ab (a0);have M:=fB M ab (bm);have O:=fO O ab (fun b U h=>by (rcases h with h|h;omega;have:=Y _ h;omega));clear rx;have sx:=eW sx ab (fun b U h=>by (rcases h with h|h;omega;have:=Y _ h;omega));have X4:=fJ X4 ab (fun k hk=>bW hk);refine Ak (Af (Ag (Aj (C1 V7 (C1 Mv (Ak ?_))))))
      have e4:Eff fb w3 vj ck br:=⟨X4,fun g hg=>(cm g hg).imp id fun h=>by omega⟩
      exact AI (j+1,_) sB ⟨by simp only;omega,cl,E3.out.trans e4,k1.eff e4,k8.eff e4,M,V,F,G,L,O⟩ (by simp only;omega)
    . obtain rfl:j=l.length:=by omega
      rw [dB] at hF;refine cS (C1 V3 (cT (Ai (Ds (Eg (A8 (A8 (BQ (Bs rfl ?_)))))))));rw [<-Nat.add_assoc];exact ⟨rfl,vj,hF,e3.fr,e3.new⟩
def Iq : ∀(l acc:List VD) (i:Nat) (h:i<l.length),CE acc (l.take (i+1))=CE acc (l.take i)+Ou (Fs (acc++l.take i) (l[i]).name)
 | v::r,acc,0,_=>by simp [CE]
 | v::r,acc,i+1,h=>by
  simp only [List.take_succ_cons,CE,List.getElem_cons_succ];rw [Iq r (acc++[v]) i (by simpa using h)];simp only [dP,List.singleton_append];omega
def FI : ∀(l acc:List VD),CE acc l<=l.length
 | [],_=>by simp [CE]
 | v::r,acc=>by
  have:=Pc (Fs acc v.name);have:=FI r (acc++[v]);simp only [CE,cF];omega
def ML (ps:List PD) (i:Nat) (p:PD):Nat:=(if (Cf ps p.name).getD i<i then 1 else 0)+CE [] p.params+p.body.flt ps p.params
def K4 (ps:List PD) : ∀(l:List PD) (i j:Nat) (h:j<l.length),Eb ps i (l.take (j+1))=Eb ps i (l.take j)+ML ps (i+j) l[j]
 | p::r,i,0,_=>by simp [Eb,ML]
 | p::r,i,j+1,h=>by
  simp only [List.take_succ_cons,Eb,List.getElem_cons_succ];rw [K4 ps r (i+1) j (by simpa using h)];rw [show i+1+j=i+(j+1) by omega];omega
def WK {ps:List PD} {i:Nat} (h:i<ps.length):decide (GO ps (ps[i]).name<(i:Int))=decide ((Cf ps (ps[i]).name).getD i<i):=by
 unfold GO;cases hq:Cf ps (ps[i]).name with
 | none=>
  exfalso;unfold Cf at hq;rw [List.findIdx?_eq_none_iff] at hq;have:=hq ps[i] (cL h);simp at this
 | some j=>simp
def LenR (n:Nat) (w:wD):Ending->wD->Prop:=fun e w'=> ∃a c,e = .returned (.slice a n c)/\Ext w w'
def LenR.ret {n:Nat} {w:wD} {e:Ending} {w':wD} (h:LenR n w e w') : ∃v,e = .returned v:=by
 obtain ⟨_,_,h,-⟩:=h;exact ⟨_,h⟩
def VDs.take {S:nP} {w:wD} {l:List VD} {a:oA} (h:VDs S w l a) (i:Nat):VDs S w (l.take i) a:=by
 rcases h with h|⟨b,o,G,L,M⟩
 . exact bW (by rw [h];simp)
 . refine bX ⟨b,o,G,L,fun j v F=>M j v ?_⟩;rw [List.getElem?_take] at F;split at F
   . exact F
   . cases F
def KF (ps:List PD) (K:Nat) : ∀(l:List PD) (i:Nat),(∀(i:Nat) (p:PD),p∈l->ML ps i p<=K)->Eb ps i l<=l.length*K
 | [],_,_=>by simp [Eb]
 | p::r,i,h=>by
  have F:=h i p AR;have L:=KF ps K r (i+1) (fun i q G=>h i q (by simp [G]));unfold ML at F;simp only [Eb,cF,Nat.add_mul];omega
def MM {F:Nat} {w w1 w':wD} {v G:Value} (x:Fr (fun k=>k=F\/v.ownBlock=some k) w w') (h : ∀g,G.ownBlock=some g->v.ownBlock=some g\/w1.heap.size<=g) (M:w.heap.size<=w1.heap.size):Eff F w v w' G:=⟨x,fun g L=>(h g L).imp id fun h=>by omega⟩
def Q4 {w:wD} {b:Nat} {v:Value} (h:Blk w b [v]) (F:Value.one v=true):PathAt (fun _=>True) w (some ⟨b,0,none⟩) 1 1:=⟨⟨cH _,fun e=>by cases e⟩,[v],rfl,by simp [F],bX ⟨b,0,rfl,trivial,h.row⟩⟩
set_option maxHeartbeats 8000000 in
def MN (g:PG) (cw:g.wf) (bw:g.ok=true) (S:nP) (va:oA) (vc:Nat) (pa:oA) (pc:Nat) (ma:oA) (mc:Nat) (w:wD) (hs:g.sits S w va pa ma) (F:PDsC S w g.procs pa) (cx:g.vars.length<=vc) :
 Calls prog 9 #[.agg (g.cells va vc pa pc ma mc).toArray] w (LenR g.flt w):=by
 have dq:=O8 bw;have HV:=bU (IJ cw bw);have G:=hs.vars.ltV;have N:=BZ _ _ hs.main;have F:=F.ltA;have hs:=hs.ltA;have X:=eU w;refine Ac func9 ntmps9 rfl rfl ?_;refine cS (eB [_,_,_,_,_,_] ?_);intro b1 w2 Z x5 p6 z7;revert G N F hs X;refine eE x5 ?_;intro G N F hs X;refine eK ?_;refine cC rfl (HV.out _ _ _ _ _ _ _ _ Ae) ?_;rintro _ w9 ⟨⟨⟩,x8⟩;revert Z G N F hs X;refine eY x8 ?_;intro e6 Z G N F hs X;refine eK ?_;refine eA [_] ?_;intro Y e7 bl cy e8 e9;revert Z G N F hs X;refine eE cy ?_;intro Z G N F hs X;refine cN (C1 (D9 rfl) (xA [_] ?_));intro ah fa cz;refine eI [_] cz ?_;intro bx O c0 fb fc;revert bl Z G N F hs X;refine eE c0 ?_;intro bl Z G N F hs X;refine cT (Ai (cS (C1 Pg (C1 (Pl Z) (C1 Pz (C1 Mv (cT ?_)))))));obtain ⟨o1,o2,-,o4,o5⟩:=Di bw;have b7:FS w.heap.size Y 0 bx (.slice none 0 0):=⟨bl,OwnQ.nil,by simp [eR],Ab⟩;have k1:Kp Y bx (.slice none 0 0) b1:=⟨Ab,Ab,by simp [eR]⟩;have kR:Kp Y bx (.slice none 0 0) ah:=⟨Ab,Ab,by simp [eR]⟩;refine Av ?_;refine A1 (ι:=Nat×Value) (fun x=>[(1,.pointer (some ⟨b1,0,none⟩)),(3,.pointer (some ⟨Y,0,none⟩)),(4,.pointer (some ⟨ah,0,none⟩)),(16,.slice va g.vars.length vc),(17,.int .i64 g.vars.length),(18,.int .i64 x.1)])
  (fun x w'=>x.1<=g.vars.length/\FS w.heap.size Y (CE [] (g.vars.take x.1)) w' x.2/\Kp Y w' x.2 b1/\Kp Y w' x.2 ah/\Blk w' ah [MI Y]/\Blk w' b1 (g.cells va vc pa pc ma mc)/\VDs (· < w.heap.size) w' g.vars va/\g.main.sits (· < w.heap.size) w' ma/\PDsC (· < w.heap.size) w' g.procs pa/\Ext w w')
  (fun x=>g.vars.length-x.1) (0,.slice none 0 0) sB ⟨cQ _,b7,k1,kR,O,Z,G,N,F,X⟩ ?_
 clear b7 k1 kR O Z G N F X bl hs;rintro ⟨j,vj⟩ w3 ⟨hj,hF,k1,kR,O,Z,G,N,F,X⟩;simp only at hj hF k1 kR O Z G N F X;by_cases aq:j<g.vars.length
 . have L : ∀q,vj.ownBlock=some q->w.heap.size<=q/\q<w3.heap.size/\q≠b1/\q≠ah:=fun q hq=>⟨hF.own.ge hq,hF.own.lt hq,fun e=>k1.2.2 (e▸hq),fun e=>kR.2.2 (e▸hq)⟩
   have aw:=k1.not;have ax:=kR.not;have bm:=k1.1;have bn:=kR.1;have a9:=hF.cell.lt;have b8:=X.size;obtain ⟨kb,ko,rfl,kS,ap⟩:=G.get (by intro e;rw [e] at aq;simp at aq);have r0:=ap j g.vars[j] (bT aq);have bz:(g.vars.take j).length=j:=by simp;omega
   have b9:=FI (g.vars.take j) [];have ad:=G.take j;have a0:=bU (OR (g.vars.take j) Ab g.vars[j].name);rw [bz] at a0;have ay:=Iq g.vars [] j aq;rw [List.nil_append] at ay;have aj:=bU (fun (w':wD) (x:Ext w3 w') (S:nP) (qa:oA) (qn qc:Nat) (hq:qn<=1000000) (p:PathAt S w' qa qn qc)=>Ip w.heap.size Y (CE [] (g.vars.take j)) vj (-1) (Fs (g.vars.take j) g.vars[j].name) g.vars[j].name S qa qn qc w' Ab hq p (hF.ext x));rw [<-ay] at aj;clear ap hF ay b9;have hm:(j:Int)=(j:Int):=rfl;generalize g.vars[j]=x at *;obtain ⟨xn,xk,xl⟩:=x;dsimp only at a0 aj;replace r0:Row w3 ⟨kb,ko+j*3,none⟩ [str xn,.int .u8 xk,.int .i64 xl]:=r0;generalize Fs (g.vars.take j) xn=ex at *;unfold MI at O;have X3:=eU w3;have X4:=fC (fun k=>k=Y\/vj.ownBlock=some k) w3
   focus
    refine eK ?_;refine eA [_,_,_] ?_;intro fd fe c5 c6 ff fg;revert O N F X Z G ad r0 X3 X4;refine eE c6 ?_;intro O N F X Z G ad r0 X3 X4;refine C1 Pa (eS [_,_,_] c5 ?_);intro cb af cc dr;revert O N F X Z G ad r0 X3 X4;refine eF cc ?_;intro O N F X Z G ad r0 X3 X4;refine cT (Ar (fun wz=>Ext cb wz) 12 (.pure 0 (.pure 1 (.pure 3 (.pure 4 (.pure 5 (.pure 6 (.pure 7 (.pure 8 (.pure 9 (.pure 10 (.fork 2 (.fork 11 .tail .none) (.fork 11 (.fork 2 .tail .none) .none)))))))))))) mixed A9 (Al (Aa (Aa (Al (Aa Ah))))) ?_);intro cd bs _;have ae:(fun wz=>Ext cb wz) cd:=bs;simp only at ae;have bo:=af;have bb:=O;have bd:=N;have be:=F;have bf:=Z;have bg:=G;have b0:=ad;have bt:=r0;revert af O N F X Z G ad r0 X3 X4;refine eY bs ?_;intro ds af O N F X Z G ad r0 X3 X4;refine ⟨ae,?_⟩;refine eT ?_;refine Tq rfl (Ei Ad rfl rfl rfl rfl hm Ab) (Tq rfl Pg (Tq rfl (Db bo) ?_));refine Ax rfl (xS [_]) rfl ?_ aFh ?kra18;rintro _ dt ⟨du,rfl,a6,dv⟩;have a1:=a6.blk;dsimp only at a1;have ce:=a6.ext;have dw:=a6.pos;have dx:=a6.size;revert ae af O N F X Z G ad r0 X3 X4;refine eE ce ?_;intro ae af O N F X Z G ad r0 X3 X4;refine ⟨ae,?_⟩;refine tC rfl rfl (a0.out _ _ _ _ ad) ?_;rintro _ dy ⟨⟨⟩,cf⟩;revert a1 ae af O N F X Z G ad r0 X3 X4;refine eY cf ?_;intro dz a1 ae af O N F X Z G ad r0 X3 X4;refine ⟨ae,?_⟩;refine At rfl ?_;refine AC (Bv (fi:=[]) (ca:=[.pointer (some ⟨Y,0,none⟩)]) A9 rfl rfl (aj.out _ Ae _ _ _ _ Ab (Q4 Ae rfl)) (fun _ _ h=>h.ret)) rfl ?_ aFh;rintro _ d0 ⟨⟨⟩,⟨c7,⟨d2,⟨ak,d3⟩⟩⟩⟩;have d4:=ak.size;have a1:=fB a1 ak (fun h=>by (rcases h with h|h;omega;have:=L _ h;omega));have af:=fB af ak (fun h=>by (rcases h with h|h;omega;have:=L _ h;omega));have O:=fB O ak (ax);have N:=eW N ak (fun b hb h=>by (rcases h with h|h;omega;have:=L _ h;omega));have F:=PDsC.fr F ak (fun b hb h=>by (rcases h with h|h;omega;have:=L _ h;omega));have X:=gE X ak (fun k hk=>by (rcases hk with h|h;omega;have:=L _ h;omega));have Z:=fB Z ak (aw);have G:=gC G ak (fun b hb h=>by (rcases h with h|h;omega;have:=L _ h;omega))
    have ad:=gC ad ak (fun b hb h=>by (rcases h with h|h;omega;have:=L _ h;omega));have X4:=fJ X4 ak (fun k hk=>bW hk);refine Ak (Af (Ag (Aj (C1 V7 (C1 Mv (Ak ?_))))));rotate_left;refine tC rfl rfl (a0.out _ _ _ _ ad) ?_;rintro _ d5 ⟨⟨⟩,cg⟩;revert ae af O N F X Z G ad r0 X3 X4;refine eY cg ?_;intro d6 ae af O N F X Z G ad r0 X3 X4;refine ⟨ae,?_⟩;refine Ax rfl (xS [_]) rfl ?_ aFh Aw;rintro _ d7 ⟨d8,rfl,a7,d9⟩;have bh:=a7.blk;dsimp only at bh;have ch:=a7.ext;have ea:=a7.pos;have eb:=a7.size;revert ae af O N F X Z G ad r0 X3 X4;refine eE ch ?_;intro ae af O N F X Z G ad r0 X3 X4;refine ⟨ae,?_⟩;refine At rfl ?_;refine AC (Bv (fi:=[]) (ca:=[.pointer (some ⟨Y,0,none⟩)]) A9 rfl rfl (aj.out _ Ae _ _ _ _ Ab (Q4 Ae rfl)) (fun _ _ h=>h.ret)) rfl ?_ aFh;rintro _ ec ⟨⟨⟩,⟨c8,⟨ed,⟨al,ee⟩⟩⟩⟩;have ef:=al.size;have bh:=fB bh al (fun h=>by (rcases h with h|h;omega;have:=L _ h;omega));have af:=fB af al (fun h=>by (rcases h with h|h;omega;have:=L _ h;omega));have O:=fB O al (ax);have N:=eW N al (fun b hb h=>by (rcases h with h|h;omega;have:=L _ h;omega));have F:=PDsC.fr F al (fun b hb h=>by (rcases h with h|h;omega;have:=L _ h;omega));have X:=gE X al (fun k hk=>by (rcases hk with h|h;omega;have:=L _ h;omega));have Z:=fB Z al (aw);have G:=gC G al (fun b hb h=>by (rcases h with h|h;omega;have:=L _ h;omega));have ad:=gC ad al (fun b hb h=>by (rcases h with h|h;omega;have:=L _ h;omega));have X4:=fJ X4 al (fun k hk=>bW hk);refine Ak (Af (Ag (Aj (C1 V7 (C1 Mv (Ak ?_))))));rotate_left
   . have e4:=MM X4 Ae Ab;exact AI (j+1,_) sB ⟨by simp only;omega,Ae,k1.eff e4,kR.eff e4,O,Z,G,N,F,X⟩ (by simp only;omega)
   . have e4:=MM X4 Ae Ab;exact AI (j+1,_) sB ⟨by simp only;omega,Ae,k1.eff e4,kR.eff e4,O,Z,G,N,F,X⟩ (by simp only;omega)
 . obtain rfl:j=g.vars.length:=by omega
   rw [dB] at hF;refine cS (C1 V3 (cT (Ai (Ds (Eg (A8 (A8 (BQ (Ag (Ai (cS ?_)))))))))));refine C1 Pf (C1 (Pl Z) (C1 Pz (C1 Mv (cT ?_))));refine Av ?_;refine A1 (ι:=Nat×Value) (fun x=>[(1,.pointer (some ⟨b1,0,none⟩)),(3,.pointer (some ⟨Y,0,none⟩)),(4,.pointer (some ⟨ah,0,none⟩)),(38,.slice pa g.procs.length pc),(39,.int .i64 g.procs.length),(40,.int .i64 x.1)])
    (fun x w'=>x.1<=g.procs.length/\FS w.heap.size Y (CE [] g.vars+Eb g.procs 0 (g.procs.take x.1)) w' x.2/\Kp Y w' x.2 b1/\Kp Y w' x.2 ah/\Blk w' ah [MI Y]/\Blk w' b1 (g.cells va vc pa pc ma mc)/\VDs (· < w.heap.size) w' g.vars va/\g.main.sits (· < w.heap.size) w' ma/\PDsC (· < w.heap.size) w' g.procs pa/\Ext w w')
    (fun x=>g.procs.length-x.1) (0,vj) sB ⟨cQ _,hF,k1,kR,O,Z,G,N,F,X⟩ ?_
   clear hF k1 kR O Z G N F X aq hj;rintro ⟨j,vj⟩ w3 ⟨hj,hF,k1,kR,O,Z,G,N,F,X⟩;simp only at hj hF k1 kR O Z G N F X;have b9:=FI g.vars [];by_cases aq:j<g.procs.length
   . have L : ∀q,vj.ownBlock=some q->w.heap.size<=q/\q<w3.heap.size/\q≠b1/\q≠ah:=fun q hq=>⟨hF.own.ge hq,hF.own.lt hq,fun e=>k1.2.2 (e▸hq),fun e=>kR.2.2 (e▸hq)⟩
     have aw:=k1.not;have ax:=kR.not;have bm:=k1.1;have bn:=kR.1;have a9:=hF.cell.lt;have b8:=X.size;have ci:=KF g.procs 2009 (g.procs.take j) 0 (fun i p hp=>by
      obtain ⟨c1,c2,-,c4⟩:=Dj (o4 p (List.mem_of_mem_take hp));obtain ⟨-,-,c3⟩:=body_iff.1 c4;have h1:=FI p.params [];have h2:=Ss g.procs p.body p.params;unfold ML;split<;>omega)
     have c9:(g.procs.take j).length*2009<=64*2009:=Nat.mul_le_mul_right _ (by simp;omega);have ay:=K4 g.procs g.procs 0 j aq;rw [eJ] at ay;have da:=WK aq;obtain ⟨c1,c2,-,c4⟩:=Dj (o4 _ (cL aq));obtain ⟨-,-,c3⟩:=body_iff.1 c4;have ac:=F.pds;obtain ⟨kb,ko,rfl,kS,ap⟩:=F.get (by intro e;rw [e] at aq;simp at aq);obtain ⟨qa,qc,ba,bc,r0,aa,ab,db⟩:=ap j g.procs[j] (bT aq);clear ap c4;have cj:=bU (OS g Ab g.procs[j].name (· < w.heap.size) va vc (some ⟨kb,ko,none⟩) pc ma mc);generalize hM:CE [] g.vars+Eb g.procs 0 (g.procs.take j)=M at *;have fh:M<=1000000:=by omega
     generalize GO g.procs g.procs[j].name=np at *;generalize g.procs[j]=x at *;refine eK ?_;refine eA [_] ?_;intro az fj b2 dc fk fl;revert O G N X Z F ac hF r0 aa ab;refine eE dc ?_;intro O G N X Z F ac hF r0 aa ab;refine eA [_,_,_,_,_,_] ?_;intro a2 eg bi ck eh ei;revert b2 O G N X Z F ac hF r0 aa ab;refine eE ck ?_;intro b2 O G N X Z F ac hF r0 aa ab;refine eS [_] b2 ?_;intro ej U bj ek;revert bi O G N X Z F ac;refine eF bj ?_;intro bi O G N X Z F ac;have hF:=FS.fr hF bj (fun k hk=>⟨Ab,fun e=>by have:=L _ e;omega⟩);revert r0 aa ab;refine eF bj ?_;intro r0 aa ab;refine eS [_,_,_,_,_,_] bi ?_;intro am V bk el;revert U O G N X Z F ac;refine eF bk ?_;intro U O G N X Z F ac;have hF:=FS.fr hF bk (fun k hk=>⟨Ab,fun e=>by have:=L _ e;omega⟩);revert r0 aa ab;refine eF bk ?_;intro r0 aa ab;refine cT (Ai ?_);have an:Kp Y am vj az:=⟨Ab,Ab,fun e=>by have:=L _ e;omega⟩;have ar:Kp Y am vj a2:=⟨Ab,Ab,fun e=>by have:=L _ e;omega⟩;have k1:=k1.grow (w':=am) Ab;have kR:=kR.grow (w':=am) Ab;have aj:=bU (fun (w':wD) (x':Ext am w')=>Ip w.heap.size Y M vj j 22 x.name (fun _=>True) none 0 0 w' Ab Ab PathAt.nil (hF.ext x'));rw [show M+Ou 22=M+1 from rfl] at aj;refine DY (ι:=Value) (fun _=>[(1,.pointer (some ⟨b1,0,none⟩)),(3,.pointer (some ⟨Y,0,none⟩)),(4,.pointer (some ⟨ah,0,none⟩)),(38,.slice (some ⟨kb,ko,none⟩) g.procs.length pc),(39,.int .i64 g.procs.length),(40,.int .i64 j),(7,.pointer (some ⟨az,0,none⟩)),(8,.pointer (some ⟨a2,0,none⟩))]) (fun v2 w'=>FS w.heap.size Y (M+(if np<(j:Int) then 1 else 0)) w' v2/\Kp Y w' v2 b1/\Kp Y w' v2 ah/\Kp Y w' v2 az/\Kp Y w' v2 a2/\Blk w' ah [MI Y]/\Blk w' b1 (g.cells va vc (some ⟨kb,ko,none⟩) pc ma mc)/\VDs (· < w.heap.size) w' g.vars va/\g.main.sits (· < w.heap.size) w' ma/\PDsC (· < w.heap.size) w' g.procs (some ⟨kb,ko,none⟩)/\Ext w w'/\Blk w' az [.int .i64 j]/\Blk w' a2 (x.cells qa qc ba bc)/\VDs (· < w.heap.size) w' x.params qa/\x.body.sits (· < w.heap.size) w' ba) ?_ ?_
     . have X3:=eU am;have X4:=fC (fun k=>k=Y\/vj.ownBlock=some k) am;unfold MI at O
       focus
        refine Ai (Ar (fun wz=>Ext am wz) 5 (.pure 0 (.pure 1 (.pure 2 (.pure 4 (.fork 3 .tail .none))))) mixed A9 (Aa (Aa (Al (Aa (Aa (Al (Aa Ah))))))) ?_);intro dd cl _;have a3:(fun wz=>Ext am wz) dd:=cl;simp only at a3;have bp:=V;have bq:=U;have bb:=O;have bg:=G;have bd:=N;have bf:=Z;have be:=F;have cv:=ac;have em:=hF;have bt:=r0;have b3:=aa;have b4:=ab;revert V U O G N X Z F ac hF r0 aa ab X3 X4;refine eY cl ?_;intro fm V U O G N X Z F ac hF r0 aa ab X3 X4;refine ⟨a3,?_⟩;refine Tq rfl (xL [_,_,_,_,_,_] (fun wz hz=>(fH bf hz))) ?_;refine eT ?_;refine tC rfl rfl (cj.out _ Ae) ?_;rintro _ fo ⟨⟨⟩,de⟩;revert a3 V U O G N X Z F ac hF r0 aa ab X3 X4;refine eY de ?_;intro fp a3 V U O G N X Z F ac hF r0 aa ab X3 X4;refine ⟨a3,?_⟩;refine At rfl ?_;refine eK ?_;refine Ay rfl (fun df=>?_) (fun df=>?_);refine eK ?_;refine AC (Bv (fi:=[]) (ca:=[.pointer (some ⟨Y,0,none⟩)]) A9 rfl rfl (aj.out _ Ae) (fun _ _ h=>h.ret)) rfl ?_ aFh;rintro _ en ⟨⟨⟩,⟨dg,⟨eo,⟨ai,ep⟩⟩⟩⟩;have er:=ai.size;have V:=fB V ai (fun h=>by (rcases h with h|h;omega;have:=L _ h;omega));have U:=fB U ai (fun h=>by (rcases h with h|h;omega;have:=L _ h;omega));have O:=fB O ai (ax);have G:=gC G ai (fun b hb h=>by (rcases h with h|h;omega;have:=L _ h;omega));have N:=eW N ai (fun b hb h=>by (rcases h with h|h;omega;have:=L _ h;omega));have X:=gE X ai (fun k hk=>by (rcases hk with h|h;omega;have:=L _ h;omega));have Z:=fB Z ai (aw);have F:=PDsC.fr F ai (fun b hb h=>by (rcases h with h|h;omega;have:=L _ h;omega));have ac:=PDs.fr ac ai (fun b hb h=>by (rcases h with h|h;omega;have:=L _ h;omega));clear hF r0;have aa:=gC aa ai (fun b hb h=>by (rcases h with h|h;omega;have:=L _ h;omega));have ab:=eW ab ai (fun b hb h=>by (rcases h with h|h;omega;have:=L _ h;omega));have X4:=fJ X4 ai (fun k hk=>bW hk);refine Ak ?_;rotate_left;refine Am ?_;rotate_left
       . have e4:=MM X4 Ae Ab;exact B8 _ sB ⟨by rw [AG Ae];assumption,k1.eff e4,kR.eff e4,an.eff e4,ar.eff e4,O,Z,G,N,F,X,U,V,aa,ab⟩
       . exact B8 vj sB ⟨by rw [As Ae];exact hF,k1.grow Ab,kR.grow Ab,an.grow Ab,ar.grow Ab,O,Z,G,N,F,X,U,V,aa,ab⟩
     . clear V U O Z G N F ac hF r0 aa ab X k1 kR an ar aj cj L aw ax bm bn a9;rintro v2 w4 ⟨hF,k1,kR,an,ar,O,Z,G,N,F,X,U,V,aa,ab⟩;obtain ⟨d1,b5⟩ : ∃d1:Nat,d1=(if np<(j:Int) then 1 else 0):=⟨_,rfl⟩
       have es:d1<=1:=by rw [b5];split<;>omega
       rw [<-b5] at hF;refine Ai (cS (C1 Pf (C1 (Pl V) (C1 Pz (C1 Mv (cT ?_))))));refine Av ?_;refine A1 (ι:=Nat×Value) (fun y=>[(1,.pointer (some ⟨b1,0,none⟩)),(3,.pointer (some ⟨Y,0,none⟩)),(4,.pointer (some ⟨ah,0,none⟩)),(38,.slice (some ⟨kb,ko,none⟩) g.procs.length pc),(39,.int .i64 g.procs.length),(40,.int .i64 j),(7,.pointer (some ⟨az,0,none⟩)),(8,.pointer (some ⟨a2,0,none⟩)),(57,.slice qa x.params.length qc),(58,.int .i64 x.params.length),(59,.int .i64 y.1)])
        (fun y w'=>y.1<=x.params.length/\FS w.heap.size Y (M+d1+CE [] (x.params.take y.1)) w' y.2/\Kp Y w' y.2 b1/\Kp Y w' y.2 ah/\Kp Y w' y.2 az/\Kp Y w' y.2 a2/\Blk w' ah [MI Y]/\Blk w' b1 (g.cells va vc (some ⟨kb,ko,none⟩) pc ma mc)/\VDs (· < w.heap.size) w' g.vars va/\g.main.sits (· < w.heap.size) w' ma/\PDsC (· < w.heap.size) w' g.procs (some ⟨kb,ko,none⟩)/\Ext w w'/\Blk w' az [.int .i64 j]/\Blk w' a2 (x.cells qa qc ba bc)/\VDs (· < w.heap.size) w' x.params qa/\x.body.sits (· < w.heap.size) w' ba)
        (fun y=>x.params.length-y.1) (0,v2) sB ⟨cQ _,hF,k1,kR,an,ar,O,Z,G,N,F,X,U,V,aa,ab⟩ ?_
       clear hF k1 kR an ar O Z G N F X U V aa ab;rintro ⟨i,vi⟩ w5 ⟨hi,hF,k1,kR,an,ar,O,Z,G,N,F,X,U,V,aa,ab⟩;simp only at hi hF k1 kR an ar O Z G N F X U V aa ab;have dh:=FI (x.params.take i) [];have L : ∀q,vi.ownBlock=some q->w.heap.size<=q/\q<w5.heap.size/\q≠b1/\q≠ah/\q≠az/\q≠a2:=fun q hq=>⟨hF.own.ge hq,hF.own.lt hq,fun e=>k1.2.2 (e▸hq),fun e=>kR.2.2 (e▸hq),fun e=>an.2.2 (e▸hq),fun e=>ar.2.2 (e▸hq)⟩
       have aw:=k1.not;have ax:=kR.not;have bm:=k1.1;have bn:=kR.1;have cm:=an.not;have cn:=ar.not;have fq:=an.1;have fs:=ar.1;have et:=hF.cell.lt;by_cases a8:i<x.params.length
       . obtain ⟨zb,zo,rfl,zS,ap⟩:=aa.get (by intro e;rw [e] at a8;simp at a8);have r0:=ap i x.params[i] (bT a8);have bz:(x.params.take i).length=i:=by simp;omega
         have ad:=aa.take i;have a0:=bU (OR (x.params.take i) Ab x.params[i].name);rw [bz] at a0;have ay:=Iq x.params [] i a8;rw [List.nil_append] at ay;have bu:M+d1+CE [] (x.params.take (i+1))=M+d1+CE [] (x.params.take i)+Ou (Fs (x.params.take i) x.params[i].name):=by rw [ay];omega
         have aj:=bU (fun (w':wD) (x':Ext w5 w')=>Ip w.heap.size Y (M+d1+CE [] (x.params.take i)) vi j (Fs (x.params.take i) x.params[i].name) x.params[i].name (fun _=>True) none 0 0 w' Ab Ab PathAt.nil (hF.ext x'));rw [<-bu] at aj;clear ap hF ay bu;have hm:(i:Int)=(i:Int):=rfl;generalize x.params[i]=y at *;obtain ⟨yn,yk,yl⟩:=y;dsimp only at a0 aj;replace r0:Row w5 ⟨zb,zo+i*3,none⟩ [str yn,.int .u8 yk,.int .i64 yl]:=r0;generalize Fs (x.params.take i) yn=ex at *;unfold MI at O;have X3:=eU w5;have X4:=fC (fun k=>k=Y\/vi.ownBlock=some k) w5;refine eK ?_;refine eA [_,_,_] ?_;intro ft fu di dk fv fw;revert O Z G N F X U ab V aa ad r0 X3 X4;refine eE dk ?_;intro O Z G N F X U ab V aa ad r0 X3 X4;refine C1 Pa (eS [_,_,_] di ?_);intro co au cp eu;revert O Z G N F X U ab V aa ad r0 X3 X4;refine eF cp ?_;intro O Z G N F X U ab V aa ad r0 X3 X4;refine cT (Ar (fun wz=>Ext co wz) 11 (.pure 0 (.pure 1 (.pure 2 (.pure 3 (.pure 4 (.pure 5 (.pure 6 (.pure 7 (.pure 8 (.pure 9 (.fork 10 .tail .none))))))))))) mixed A9 (Al (Aa (Aa (Al (Aa (Al (Aa (Aa (Al (Aa Ah)))))))))) ?_);intro cq bv _;have av:(fun wz=>Ext co wz) cq:=bv;simp only at av;have br:=au;have bb:=O;have bf:=Z;have bg:=G;have bd:=N;have be:=F;have bq:=U;have b4:=ab;have bp:=V;have b3:=aa;have b0:=ad;have bt:=r0;revert au O Z G N F X U ab V aa ad r0 X3 X4;refine eY bv ?_;intro ew au O Z G N F X U ab V aa ad r0 X3 X4;refine ⟨av,?_⟩;refine eT ?_;refine Tq rfl (Ei Ad rfl rfl rfl rfl hm Ab) (Tq rfl Pg (Tq rfl (Db br) ?_));refine tC rfl rfl (a0.out _ _ _ _ ad) ?_
         rintro _ ey ⟨⟨⟩,cr⟩;revert av au O Z G N F X U ab V aa ad r0 X3 X4;refine eY cr ?_;intro ez av au O Z G N F X U ab V aa ad r0 X3 X4;refine ⟨av,?_⟩;refine At rfl ?_;refine AC (Bv (fi:=[]) (ca:=[.pointer (some ⟨Y,0,none⟩)]) A9 rfl rfl (aj.out _ Ae) (fun _ _ h=>h.ret)) rfl ?_ aFh;rintro _ e0 ⟨⟨⟩,⟨dl,⟨e1,⟨ag,e2⟩⟩⟩⟩;have e3:=ag.size;have au:=fB au ag (fun h=>by (rcases h with h|h;omega;have:=L _ h;omega));have O:=fB O ag (ax);have Z:=fB Z ag (aw);have G:=gC G ag (fun b hb h=>by (rcases h with h|h;omega;have:=L _ h;omega));have N:=eW N ag (fun b hb h=>by (rcases h with h|h;omega;have:=L _ h;omega));have F:=PDsC.fr F ag (fun b hb h=>by (rcases h with h|h;omega;have:=L _ h;omega));have X:=gE X ag (fun k hk=>by (rcases hk with h|h;omega;have:=L _ h;omega));have U:=fB U ag (cm);have ab:=eW ab ag (fun b hb h=>by (rcases h with h|h;omega;have:=L _ h;omega));have V:=fB V ag (cn);have aa:=gC aa ag (fun b hb h=>by (rcases h with h|h;omega;have:=L _ h;omega));have ad:=gC ad ag (fun b hb h=>by (rcases h with h|h;omega;have:=L _ h;omega));have X4:=fJ X4 ag (fun k hk=>bW hk);refine Ak (Af (Ag (Aj (C1 V7 (C1 Mv (Ak ?_))))))
         have e4:=MM X4 Ae Ab;exact AI (i+1,_) sB ⟨by simp only;omega,Ae,k1.eff e4,kR.eff e4,an.eff e4,ar.eff e4,O,Z,G,N,F,X,U,V,aa,ab⟩ (by simp only;omega)
       . obtain rfl:i=x.params.length:=by omega
         rw [dB] at hF dh;have a4:=bU (fun (w':wD) (x':Ext w5 w') (h1:x.body.sits (· < w.heap.size) w' ba) (h2:PDs (· < w.heap.size) w' g.procs (some ⟨kb,ko,none⟩)) (h3:VDs (· < w.heap.size) w' x.params qa)=>
          Q3 w.heap.size Y Ab 31 [.pointer (some ⟨ah,0,none⟩),.pointer (some ⟨az,0,none⟩)] A9 _ (UR w.heap.size Y ah az j) g Ab va vc (some ⟨kb,ko,none⟩) pc ma mc (x.body.size+1)
           x.body x.params (· < w.heap.size) (fun _=>False) ba bc qa qc none 0 0 w' vi (M+d1+CE [] x.params) Ab Ab Ab Ab h1 h2 h3 db PathAt.nil
           (fun b hb=>⟨by have:=x'.size;have:=X.size;omega,Ab,fun e=>by have:=L _ e;omega⟩) (fun _ h=>h.elim) (hF.ext x') ⟨O.ext x',U.ext x',kR.grow x'.size,an.grow x'.size⟩)
         have ct:M+d1+CE [] x.params+x.body.flt g.procs x.params=CE [] g.vars+Eb g.procs 0 (g.procs.take (j+1)):=by
          have dm:d1=if (Cf g.procs x.name).getD j<j then 1 else 0:=by
           rw [b5];have h:=decide_eq_decide.1 da;by_cases h1:np<(j:Int)
           . rw [AG h1,AG (h.1 h1)]
           . rw [As h1,As (fun e=>h1 (h.2 e))]
          rw [ay,dm,ML];omega
         rw [ct] at a4;have ac:=F.pds;have X3:=eU w5;have X4:=fC (fun k=>k=Y\/vi.ownBlock=some k) w5;refine eK ?_;refine C1 (D9 rfl) (cC rfl (a4.out _ Ae Ae Ae Ae) ?_);rintro _ fx ⟨⟨⟩,⟨e5,⟨fy,⟨ao,fz⟩⟩⟩⟩;have f0:=ao.size;have O:=fB O ao (ax);have Z:=fB Z ao (aw);have G:=gC G ao (fun b hb h=>by (rcases h with h|h;omega;have:=L _ h;omega));have N:=eW N ao (fun b hb h=>by (rcases h with h|h;omega;have:=L _ h;omega));have F:=PDsC.fr F ao (fun b hb h=>by (rcases h with h|h;omega;have:=L _ h;omega));have X:=gE X ao (fun k hk=>by (rcases hk with h|h;omega;have:=L _ h;omega));have U:=fB U ao (cm);have V:=fB V ao (cn);have aa:=gC aa ao (fun b hb h=>by (rcases h with h|h;omega;have:=L _ h;omega));have ab:=eW ab ao (fun b hb h=>by (rcases h with h|h;omega;have:=L _ h;omega));clear hF;have ac:=PDs.fr ac ao (fun b hb h=>by (rcases h with h|h;omega;have:=L _ h;omega));have X4:=fJ X4 ao (fun k hk=>bW hk);refine Ak (Af (Ag (Aj (C1 V7 (C1 Mv (Ak ?_))))));have e4:=MM X4 Ae Ab;exact AI (j+1,_) sB ⟨by simp only;omega,Ae,k1.eff e4,kR.eff e4,O,Z,G,N,F,X⟩ (by simp only;omega)
   . obtain rfl:j=g.procs.length:=by omega
     rw [dB] at hF;have L : ∀q,vj.ownBlock=some q->w.heap.size<=q/\q<w3.heap.size/\q≠b1/\q≠ah:=fun q hq=>⟨hF.own.ge hq,hF.own.lt hq,fun e=>k1.2.2 (e▸hq),fun e=>kR.2.2 (e▸hq)⟩
     have aw:=k1.not;have ax:=kR.not;have bm:=k1.1;have bn:=kR.1;have a9:=hF.cell.lt;have b8:=X.size;obtain ⟨-,-,c3⟩:=body_iff.1 o5;have ci:=KF g.procs 2009 g.procs 0 (fun i p hp=>by
      obtain ⟨c1,c2,-,c4⟩:=Dj (o4 p hp);obtain ⟨-,-,c3⟩:=body_iff.1 c4;have h1:=FI p.params [];have h2:=Ss g.procs p.body p.params;unfold ML;split<;>omega)
     have c9:g.procs.length*2009<=64*2009:=Nat.mul_le_mul_right _ o2;have ac:=F.pds;have a4:=bU (fun (w':wD) (x':Ext w3 w') (h1:g.main.sits (· < w.heap.size) w' ma) (h2:PDs (· < w.heap.size) w' g.procs pa) (h3:VDs (· < w.heap.size) w' g.vars va)=>
      Q3 w.heap.size Y Ab 32 [.pointer (some ⟨ah,0,none⟩),.pointer (some ⟨b1,0,none⟩)] A9 _ (US w.heap.size Y ah b1 g va vc pa pc ma mc) g Ab va vc pa pc ma mc (g.main.size+1)
       g.main g.vars (· < w.heap.size) (fun _=>False) ma mc va vc none 0 0 w' vj (CE [] g.vars+Eb g.procs 0 g.procs) Ab Ab Ab Ab h1 h2 h3 cx PathAt.nil
       (fun b hb=>⟨by have:=x'.size;omega,Ab,fun e=>by have:=L _ e;omega⟩) (fun _ h=>h.elim) (hF.ext x') ⟨O.ext x',Z.ext x',kR.grow x'.size,k1.grow x'.size⟩)
     rw [show CE [] g.vars+Eb g.procs 0 g.procs+g.main.flt g.procs g.vars=g.flt from rfl] at a4;have X3:=eU w3;clear hF;refine eK ?_;refine C1 (D9 rfl) (cC rfl (a4.out _ Ae Ae Ae Ae) ?_);rintro _ f1 ⟨⟨⟩,⟨cu,⟨b6,⟨a5,dn⟩⟩⟩⟩;have f2:=a5.size;have O:=fB O a5 (ax);have Z:=fB Z a5 (aw);have G:=gC G a5 (fun b hb h=>by (rcases h with h|h;omega;have:=L _ h;omega));have N:=eW N a5 (fun b hb h=>by (rcases h with h|h;omega;have:=L _ h;omega));have F:=PDsC.fr F a5 (fun b hb h=>by (rcases h with h|h;omega;have:=L _ h;omega));have X:=gE X a5 (fun k hk=>by (rcases hk with h|h;omega;have:=L _ h;omega));have ac:=PDs.fr ac a5 (fun b hb h=>by (rcases h with h|h;omega;have:=L _ h;omega));refine cT ?_;have dp : ∃a c,cu = .slice a g.flt c:=by
      obtain ⟨f3,h1,-⟩:=b6.own.ex;rw [List.length_replicate] at h1;rcases h1.row with ⟨h2,h0,-⟩|⟨q,cap,h2,-⟩
      . exact ⟨none,0,by rw [h2,h0]⟩
      . exact ⟨_,_,h2⟩
     have hc:=b6.cell;obtain ⟨ra,rc,rfl⟩:=dp;clear b6 dn O Z G N F ac;refine eK ?_;refine xR ?_;exact ⟨_,_,rfl,X⟩
def ArrS.blkI {C D g:Nat} {w:wD} {xs:List Int} (h:ArrS Ms C D w g xs):Blk w g (ints xs):=by
 obtain ⟨F,G,L,M⟩:=h.ex;have e:F=xs.map fun x=>[.int .i64 x]:=by
  refine List.ext_getElem (by simp [L]) fun i N O=>?_
  rw [List.getElem_map];exact M i xs[i] F[i] (bT Ab) (bT N)
 have U:F.flatten=ints xs:=by
  rw [e];clear h G L M e
  induction xs with
  | nil=>rfl
  | cons x r V=>simp only [List.map_cons,List.flatten_cons,V];rfl
 rw [<-U];exact G
section
variable {c:RC} {P P':nP} {w w':wD} {r:Rn} {T:nP}
def YE (G:c.fuel<=10000) (w:wD) (h:Run c P w r):Calls prog 67 #[.pointer (some ⟨c.sb,0,none⟩)] w (SvR r.st.sv w):=by
 obtain ⟨ρ,κ,h⟩:=h;obtain ⟨K,F⟩:=h.wf;exact Yr F Ab w h.st
def Run.small (M:c.fuel<=10000) (h:Run c P w r):r.st.sv.small:=by
 obtain ⟨ρ,κ,h⟩:=h;obtain ⟨K,F⟩:=h.wf;obtain ⟨N,O,U,tb,cs,-,-,-,-,G⟩:=h.st.frs;have V:=G.li;have X:=G.lo;have Y:=F.base.len;have Z:=F.vb _ (List.mem_cons_self ..);refine ⟨by simp only [Stp.sv,List.length_map,eH];omega,fun xs L=>?_,by simp only [Stp.sv];omega,by simp only [Stp.sv];omega⟩;simp only [Stp.sv,List.mem_map] at L;obtain ⟨x,-,rfl⟩:=L;exact F.items_le x
def YF {B G sb F ec vc pc mc f:Nat} {va U ma:oA} {g:PG} {S:nP} {K:List (Int×Int)} {st:Stp} {L w:wD} (hN:NewS B sb st L) (X:Ext L w) (hB:B<=L.heap.size) (ab:L.heap.size<=G) (ac:L.heap.size<=F) (V:G≠F)
 (Y:st.WF K 1000) (O:Blk w G [.slice va g.vars.length vc,.slice U g.procs.length pc,.int .u8 g.main.kind,.int .i64 g.main.num,str g.main.name,.slice ma g.main.kids.length mc,.pointer (some ⟨sb,0,none⟩),.int .i64 0,.int .i64 f,.slice (some ⟨F,0,none⟩) g.procs.length ec])
 {es:List Int} (Z:es.length=g.procs.length) (he:Blk w F (ints es)) (hp:PDs S w g.procs U) (hS : ∀k,S k->P k) (hP : ∀k,P k->k<w.heap.size/\(k<B\/(L.heap.size<=k/\k≠G/\k≠F))) :
 Run ⟨G,sb,F,ec,g,va,vc,U,pc,ma,mc,f,S⟩ P w ⟨st,f⟩:=by
 obtain ⟨ρ,κ,h0,hs⟩:=hN;have hz:=X.size;have hr:Ro ρ (fun b=>if b=G then .other 0 else if b=F then .other 1 else ρ b) L:=fun b O=>by
  simp only;rw [As Ab,As Ab]
 have ad:=O.lt;have aa:=he.lt;have M:=hs.fresh;refine ⟨_,κ,AG rfl,?_,cH _,?_,⟨es,Z,he⟩,hs.move (Fr.none X) (fun _ h=>h.elim) hr (fun b O=>?_),⟨K,Y.mono Ab⟩,hp,hS,fun k hk=>⟨fun h=>?_,(hP k hk).1⟩⟩
 . show (if F=G then Rl.other 0 else if F=F then Rl.other 1 else ρ F)=Rl.other 1;rw [As (fun e=>V e.symm),AG rfl]
 . simp only [Int.sub_self];exact O
 . rw [As Ab,As Ab];exact M b Ab
 . obtain ⟨-,N⟩:=hP k hk;have e1:ρ k = .none:=by
    rcases N with N|N
    . exact h0 k N
    . exact M k N.1
   have e2:(if k=G then Rl.other 0 else if k=F then Rl.other 1 else ρ k) = .none:=by
    rw [As Ab,As Ab,e1]
   rw [e2] at h;rcases h with h|h|h
   . exact h
   . cases h
   . cases h
end
def BeginR (res:ResV) (w:wD):Ending->wD->Prop:=fun e w'=> ∃v a c ta tc oa oc,e = .returned (.tuple #[v,.agg (res.row a c ta tc oa oc).toArray])/\res.st.sits (fun b=>w.heap.size<=b/\b<w'.heap.size) w' a ta oa/\res.st.small/\Ext w w'
def BeginR.ret {F:ResV} {w w':wD} {e:Ending} (h:BeginR F w e w') : ∃v,e = .returned v:=by
 obtain ⟨_,_,_,_,_,_,_,h,-⟩:=h;exact ⟨_,h⟩
def YG (g:PG) (hwf:g.wf) (hok:g.ok=true) (h0:g.flt=0) (s:SV) (hf:FitsP g.vars s) (f:Nat) (hfu:f<=10000) (back:Bool) (d:Nat) (hne:AD (Au g.procs d) back g.main ⟨Dl g.vars s g.vars.length,f⟩≠.error (-1))
 (S:nP) (va:oA) (vc:Nat) (pa:oA) (pc:Nat) (ma:oA) (mc:Nat) (ca ta oa:oA) (cc tc oc:Nat) (w:wD) (hs:g.sits S w va pa ma) (hps:PDsC S w g.procs pa) (hvc:g.vars.length<=vc) (hv:s.sits S w ca ta oa) :
 Calls prog 37 #[.agg (g.cells va vc pa pc ma mc).toArray,.agg (s.row ca cc ta tc oa oc).toArray,.int .i64 f,.bool back] w (BeginR (QZ s f (AD (Au g.procs d) back g.main ⟨Dl g.vars s g.vars.length,f⟩)) w):=by
 have X:=eU w;replace hs:=hs.ltA;replace hps:=hps.ltA;replace hv:=hv.ltA;have hsm:=hf.small;have HV:=bU (IJ hwf hok);have HC:=bU (fun w1 h1 h2=>MN g hwf hok (· < w.heap.size) va vc pa pc ma mc w1 h1 h2 hvc);rw [h0] at HC;have HN:=bU (fun w1 (h1:g.sits (· < w.heap.size) w1 va pa ma) h2=>aB g.vars s hf (· < w.heap.size) va ca ta oa vc cc tc oc w1 h1.vars h2);have HK:=bU (fun w1 h=>UE s (· < w.heap.size) ca ta oa cc tc oc w1 hsm.few hsm.each hsm.tin hsm.tout h);have HPr:=bU (WH hwf hok h0);have HMo:=bU (UQ hwf hok h0);have HMb:=bU (JV hok);have HW:=bU (Ti hf);have hnz:=MF (O9 g.procs d) back g.main ⟨Dl g.vars s g.vars.length,f⟩;have hnp:=(Di hok).2.1;clear hf hwf hok h0;refine Ac func37 ntmps37 rfl rfl ?_
 refine cS (eB [_,_,_,_,_,_] ?_);intro b1 w2 h4 x5 p6 z7;revert X hs hps hv;refine eE x5 ?_;intro X hs hps hv;refine eB [_,_,_] ?_;intro b8 w9 h11 x12 p13 z14;revert h4 X hs hps hv;refine eE x12 ?_;intro h4 X hs hps hv;refine eB [_] ?_;intro b15 w16 h18 x19 p20 z21;revert h11 h4 X hs hps hv;refine eE x19 ?_;intro h11 h4 X hs hps hv;refine C1 Pa (eA [_,_,_,_,_] ?_);intro b22 w23 h26 x27 p28 z29;revert h18 h11 h4 X hs hps hv;refine eE x27 ?_;intro h18 h11 h4 X hs hps hv;refine eK ?_;refine cC rfl (HV.out _ _ _ _ _ _ _ _ ‹_›) ?_;rintro _ w31 ⟨⟨⟩,x30⟩;revert h26 h18 h11 h4 X hs hps hv;refine eY x30 ?_;intro z32 h26 h18 h11 h4 X hs hps hv;refine eK ?_;refine eQ rfl (HC.out _ ‹_› ‹_›) ?_;rintro _ w36 ⟨a33,⟨c34,⟨⟨⟩,x35⟩⟩⟩;revert h26 h18 h11 h4 X hs hps hv;refine eY x35 ?_;intro z37 h26 h18 h11 h4 X hs hps hv;refine eK ?_;refine eQ rfl (HN.out _ ‹_› ‹_›) ?_;rintro _ w42 ⟨sb38,⟨⟨⟩,⟨h39,⟨h40,x41⟩⟩⟩⟩;revert h26 h18 h11 h4 X hs hps hv;refine eY x41 ?_;intro z43 h26 h18 h11 h4 X hs hps hv;refine C1 Mv (C1 Px (C1 Px (C1 Pa (C1 Pa (cT (Ai (cS (C1 Mv (C1 V2 (cT (Np ?_)))))))))));refine Am (Ag ?_)
 have HNN:=bU h39;have Xn:=eU w42;clear h39 HV HC HN;refine IA (ι:=Nat×Nat×Nat) (fun x=>[(4,.pointer (some ⟨b1,0,none⟩)),(5,.pointer (some ⟨b8,0,none⟩)),(7,.pointer (some ⟨b15,0,none⟩)),(8,.slice none 0 0),(9,.pointer (some ⟨b22,0,none⟩)),(10,.pointer (some ⟨sb38,0,none⟩)),(12,.pointer (some ⟨x.2.2,0,none⟩))])
  (fun x w'=>Blk w' x.1 [.slice va g.vars.length vc,.slice pa g.procs.length pc,.int .u8 g.main.kind,.int .i64 g.main.num,str g.main.name,.slice ma g.main.kids.length mc,.pointer (some ⟨sb38,0,none⟩),.int .i64 0,.int .i64 f,.slice (some ⟨x.2.1,0,none⟩) g.procs.length g.procs.length] /\
   Blk w' x.2.1 (ints (dJ g.procs.length 0))/\Blk w' x.2.2 [.pointer (some ⟨x.1,0,none⟩)]/\w42.heap.size<=x.1/\w42.heap.size<=x.2.1/\w42.heap.size<=x.2.2/\x.1≠x.2.1/\x.2.2≠x.1/\x.2.2≠x.2.1/\Blk w' b1 (g.cells va vc pa pc ma mc)/\Blk w' b8 [.slice ca s.cells.length cc,.slice ta s.tin.length tc,.slice oa s.tout.length oc]/\Blk w' b15 [.bool back]/\Blk w' b22 [.slice none 0 0,.slice none 0 0,.slice none 0 0,.int .i64 0,.int .i64 0]/\g.sits (· < w.heap.size) w' va pa ma/\s.sits (· < w.heap.size) w' ca ta oa/\Ext w42 w'/\Ext w w') ?_ ?_
 . focus
    refine Ar (fun wz=>Ext w42 wz) 10 (.pure 0 (.pure 1 (.pure 2 (.pure 3 (.pure 4 (.pure 5 (.fork 6 (.pure 7 (.fork 8 (.fork 9 .tail .none) (.fork 9 (.fork 8 .tail .none) .none))) (.fork 9 (.fork 6 (.pure 7 (.fork 8 .tail .none)) .none) .none)))))))) mixed (by kernel_rfl) (Aa Ah) ?_;intro wa1 xa2 _;have qsa3:(fun wz=>Ext w42 wz) wa1:=xa2;simp only at qsa3;have d_h26:=h26;have d_h18:=h18;have d_h11:=h11;have d_h4:=h4;have d_hs:=hs;have d_hps:=hps;have d_hv:=hv;revert h26 h18 h11 h4 X hs hps hv Xn;refine eY xa2 ?_;intro za4 h26 h18 h11 h4 X hs hps hv Xn;refine ⟨qsa3,?_⟩;refine Tq rfl (By [_,_,_,_,_,_] Ad rfl rfl rfl (fun wz hz=>(fH d_h4 hz)) rfl rfl) ?_;refine eT ?_;refine Ax rfl (FH (sh:=Ms) (C:=0) (D:=0) (N:=g.procs.length) (z:=0) Ad CY rfl rfl rfl rfl (by kernel_rfl) rfl rfl (by omega) (fun _ _=>rfl)) rfl ?_ (fun _ h=>h) ?kra5;rintro _ wa11 ⟨ga6,⟨rfl,⟨ha7,⟨ha8,⟨ha9,xa10⟩⟩⟩⟩⟩;revert qsa3 h26 h18 h11 h4 X hs hps hv Xn;refine eY xa10 ?_;intro za12 qsa3 h26 h18 h11 h4 X hs hps hv Xn;refine ⟨qsa3,?_⟩;refine Tq rfl (CA [_,_,_,_,_,_,_,_,_,_] Ad CY rfl rfl rfl rfl) ?_;refine Ax rfl (Hv rfl rfl) rfl ?_ (fun _ h=>h) ?kra13;rintro _ wa15 ⟨ba14,rfl,na16⟩;have ha17:=na16.blk;have xa18:=na16.ext;have pa19:=na16.pos;have za20:=na16.size
    revert ha7 qsa3 h26 h18 h11 h4 X hs hps hv Xn;refine eE xa18 ?_;intro ha7 qsa3 h26 h18 h11 h4 X hs hps hv Xn;refine ⟨qsa3,?_⟩;refine Ax rfl (Bt CY rfl) rfl ?_ (fun _ h=>h) Aw;rintro _ wa23 ⟨ba22,rfl,na24⟩;have ha25:=na24.blk;dsimp only at ha25;have xa26:=na24.ext;have pa27:=na24.pos;have za28:=na24.size;revert ha17 ha7 qsa3 h26 h18 h11 h4 X hs hps hv Xn;refine eE xa26 ?_;intro ha17 ha7 qsa3 h26 h18 h11 h4 X hs hps hv Xn;refine ⟨qsa3,?_⟩;refine At rfl (eS [_] ha25 ?_);intro wa29 ha33 fa31 za32;revert ha17 ha7 h26 h18 h11 h4 X hs hps hv Xn;refine eF fa31 ?_;intro ha17 ha7 h26 h18 h11 h4 X hs hps hv Xn;refine Ak ?_;rotate_left;refine Ax rfl (Bt CY rfl) rfl ?_ (fun _ h=>h) Aw;rintro _ wa36 ⟨ba35,rfl,na37⟩;have ha38:=na37.blk;dsimp only at ha38;have xa39:=na37.ext;have pa40:=na37.pos;have za41:=na37.size;revert ha7 qsa3 h26 h18 h11 h4 X hs hps hv Xn;refine eE xa39 ?_;intro ha7 qsa3 h26 h18 h11 h4 X hs hps hv Xn;refine ⟨qsa3,?_⟩;refine Ax rfl (Hv rfl rfl) rfl ?_ (fun _ h=>h) Aw;rintro _ wa44 ⟨ba43,rfl,na45⟩;have ha46:=na45.blk;have xa47:=na45.ext;have pa48:=na45.pos;have za49:=na45.size;revert ha38 ha7 qsa3 h26 h18 h11 h4 X hs hps hv Xn;refine eE xa47 ?_;intro ha38 ha7 qsa3 h26 h18 h11 h4 X hs hps hv Xn
    refine ⟨qsa3,?_⟩;refine At rfl (eS [_] ha38 ?_);intro wa50 ha54 fa52 za53;revert ha46 ha7 h26 h18 h11 h4 X hs hps hv Xn;refine eF fa52 ?_;intro ha46 ha7 h26 h18 h11 h4 X hs hps hv Xn;refine Ak ?_;rotate_left;refine Ax rfl (Bt CY rfl) rfl ?_ (fun _ h=>h) Aw;rintro _ wa57 ⟨ba56,rfl,na58⟩;have ha59:=na58.blk;dsimp only at ha59;have xa60:=na58.ext;have pa61:=na58.pos;have za62:=na58.size;revert qsa3 h26 h18 h11 h4 X hs hps hv Xn;refine eE xa60 ?_;intro qsa3 h26 h18 h11 h4 X hs hps hv Xn;refine ⟨qsa3,?_⟩;refine Ax rfl (FH (sh:=Ms) (C:=0) (D:=0) (N:=g.procs.length) (z:=0) Ad CY rfl rfl rfl rfl (by kernel_rfl) rfl rfl (by omega) (fun _ _=>rfl)) rfl ?_ (fun _ h=>h) Aw;rintro _ wa69 ⟨ga64,⟨rfl,⟨ha65,⟨ha66,⟨ha67,xa68⟩⟩⟩⟩⟩;revert ha59 qsa3 h26 h18 h11 h4 X hs hps hv Xn;refine eY xa68 ?_;intro za70 ha59 qsa3 h26 h18 h11 h4 X hs hps hv Xn;refine ⟨qsa3,?_⟩;refine Tq rfl (CA [_,_,_,_,_,_,_,_,_,_] Ad CY rfl rfl rfl rfl) ?_;refine Ax rfl (Hv rfl rfl) rfl ?_ (fun _ h=>h) Aw;rintro _ wa73 ⟨ba72,rfl,na74⟩;have ha75:=na74.blk;have xa76:=na74.ext;have pa77:=na74.pos;have za78:=na74.size;revert ha65 ha59 qsa3 h26 h18 h11 h4 X hs hps hv Xn;refine eE xa76 ?_;intro ha65 ha59 qsa3 h26 h18 h11 h4 X hs hps hv Xn
    refine ⟨qsa3,?_⟩;refine At rfl (eS [_] ha59 ?_);intro wa79 ha83 fa81 za82;revert ha75 ha65 h26 h18 h11 h4 X hs hps hv Xn;refine eF fa81 ?_;intro ha75 ha65 h26 h18 h11 h4 X hs hps hv Xn;refine Ak ?_;rotate_left
   all_goals exact B8 (_,_,_) (by (repeat (first|exact Cy|refine AQ rfl ?_|refine Bx rfl (by go_num) ?_))) ⟨by assumption,ArrS.blkI ‹_›,by assumption,by (try simp only);omega,by (try simp only);omega,by (try simp only);omega,by (try simp only);omega,by (try simp only);omega,by (try simp only);omega,by assumption,by assumption,by assumption,by assumption,by assumption,by assumption,Xn,X⟩
 . clear h4 h11 h18 h26 hs hv hps X Xn
   rintro ⟨rb,eb,b12⟩ w3 ⟨hrb,heb,h12,o1,o2,o3,o4,o5,o6,h4,h11,h18,h26,hs,hv,Xn,X⟩;simp only at hrb heb h12 o1 o2 o3 o4 o5 o6;have hzn:=Xn.size;have h12l:=h12.lt;have hR:Run ⟨rb,sb38,eb,g.procs.length,g,va,vc,pa,pc,ma,mc,f,(· < w.heap.size)⟩ (fun k=>k<w36.heap.size\/k=b12) w3 ⟨Dl g.vars s g.vars.length,f⟩:=
    YF HNN.out Xn (by omega) o1 o2 o4 HW.out hrb (es:=dJ g.procs.length 0) (by simp) heb hs.procs (fun k hk=>bW (by omega)) (fun k hk=>by rcases hk with hk|hk<;>omega)
   have HA:Hid (∀jb w4,Ext w3 w4->w3.heap.size<=jb->jb<w4.heap.size->Blk w4 jb [.slice none 0 0,.bool false]->Calls prog 64 #[.pointer (some ⟨jb,0,none⟩),.func (.func 65) #[] #[.pointer (some ⟨b12,0,none⟩),.pointer (some ⟨b1,0,none⟩),.pointer (some ⟨b15,0,none⟩)]] w4 (ZC ⟨rb,sb38,eb,g.procs.length,g,va,vc,pa,pc,ma,mc,f,(· < w.heap.size)⟩ (Ci (fun k=>k<w36.heap.size\/k=b12) w3 w4) (AD (Au g.procs d) back g.main ⟨Dl g.vars s g.vars.length,f⟩) w4)):=bU fun jb w4 X4 j1 j2 hj=>
    UD (ca:=[.pointer (some ⟨b12,0,none⟩),.pointer (some ⟨b1,0,none⟩),.pointer (some ⟨b15,0,none⟩)]) (by kernel_rfl) hnz w4 (fun k hk=>by have:=X4.size;rcases hk with (hk|hk)|hk<;>omega) (fun k hk=>bW (bW (by have e:k<w.heap.size:=hk;omega))) (bX ⟨j1,j2⟩) hj (fun w5 X5=>
     WI (c:=⟨rb,sb38,eb,g.procs.length,g,va,vc,pa,pc,ma,mc,f,(· < w.heap.size)⟩) hfu HPr.out HMo.out HMb.out d back hne b12 b1 b15 vc pc mc va pa ma w5 ((hR.more X4).more X5) ((h12.ext X4).ext X5) ((h4.ext X4).ext X5) ((h18.ext X4).ext X5) (eX ((hs.main.ext X4).ext X5) (fun b hb=>bW (bW (bW (by have e:b<w.heap.size:=hb;omega))))))
   unfold ZC at HA
   generalize AD (Au g.procs d) back g.main ⟨Dl g.vars s g.vars.length,f⟩=Z at *
   have X3:=eU w3;clear Xn hR
   refine cS (eA [_,_] ?_);intro bb1 wb2 hb5 xb6 pb7 zb8;revert hrb heb h12 h4 h11 h18 h26 hs hv X X3;refine eE xb6 ?_;intro hrb heb h12 h4 h11 h18 h26 hs hv X X3;refine C1 (D9 rfl) ?_;refine AC (AU (by kernel_rfl) rfl (HA.out _ _ X3 (by omega) (by omega) ‹_›) (fun _ _ ⟨_,h⟩=>⟨_,h.1⟩)) rfl ?_ (fun _ h=>h);rintro _ wb12 ⟨erb9,⟨⟨⟩,⟨hb10,fb11⟩⟩⟩;have zb13:=fb11.size;clear hb5 hrb heb;replace h12:=fB h12 fb11 (fun h=>h (bW (bX rfl)));replace h4:=fB h4 fb11 (fun h=>h (bW (bW (by omega))));replace h11:=fB h11 fb11 (fun h=>h (bW (bW (by omega))));replace h18:=fB h18 fb11 (fun h=>h (bW (bW (by omega))));replace h26:=fB h26 fb11 (fun h=>h (bW (bW (by omega))));replace hs:=PG.sits.fr hs fb11 (fun b hb h=>h (bW (bW (by have e:b<w.heap.size:=hb;omega))));replace hv:=SV.sits.fr hv fb11 (fun b hb h=>h (bW (bW (by have e:b<w.heap.size:=hb;omega))));replace X:=gE X fb11 (fun k hk=>by (rcases cO k w.heap.size with h|h;exact absurd (bW (bW (by omega))) hk;exact h));refine C1 Pa (cT (Ai ?_))
   rcases hb10 with ⟨he0,r,hZ,hR⟩|⟨he0,hZ⟩
   . subst he0;have hrr:=hR.rem;have hb:=hR.blk;have hsr:=hR.small hfu;have HS:=bU (fun w1 (h:Run ⟨rb,sb38,eb,g.procs.length,g,va,vc,pa,pc,ma,mc,f,(· < w.heap.size)⟩ (Ci (fun k=>k<w36.heap.size\/k=b12) w3 wb2) w1 r)=>YE hfu w1 h);simp only at hrr hb HS;rw [hZ]
     generalize hsv:r.st.sv=sv at *
     obtain ⟨cells,tin,tout⟩:=sv
     refine eK ?_;refine Ar (fun wz=>Ext wb12 wz) 12 (.pure 0 (.pure 1 (.pure 2 (.pure 3 (.pure 4 (.pure 6 (.pure 7 (.pure 8 (.pure 9 (.fork 5 (.pure 10 (.pure 11 .tail)) .none)))))))))) mixed (by kernel_rfl) (Aa Ah) ?_;intro wc1 xc2 _;have qsc3:(fun wz=>Ext wb12 wz) wc1:=xc2;simp only at qsc3;have d_h12:=h12;have d_h4:=h4;have d_h11:=h11;have d_h18:=h18;have d_h26:=h26;have d_hs:=hs;have d_hv:=hv;have d_hR:=hR;have d_hb:=hb;revert h12 h4 h11 h18 h26 hs hv X hR hb;refine eY xc2 ?_;intro zc4 h12 h4 h11 h18 h26 hs hv X hR hb;refine ⟨qsc3,?_⟩;refine eT ?_;refine Ax rfl (AU (by kernel_rfl) rfl (HS.out _ ‹_›) (fun _ _ h=>h.ret)) rfl ?_ (fun _ h=>h) Aw;rintro _ wc14 ⟨ac6,⟨cc7,⟨tac8,⟨tcc9,⟨oac10,⟨occ11,⟨⟨⟩,⟨hc12,xc13⟩⟩⟩⟩⟩⟩⟩⟩;revert qsc3 h12 h4 h11 h18 h26 hs hv X hR hb;refine eY xc13 ?_;intro zc15 qsc3 h12 h4 h11 h18 h26 hs hv X hR hb;refine ⟨qsc3,?_⟩;refine Tq rfl (CA [_,_,_,_,_] Ad CY rfl rfl rfl rfl) (Tq rfl Pa ?_);refine At rfl (eS [_,_,_,_,_] h26 ?_);intro wc16 hc20 fc18 zc19;revert hc12 h12 h4 h11 h18 hs hv X hb;refine eF fc18 ?_;intro hc12 h12 h4 h11 h18 hs hv X hb;refine cT (AN ?_)
     refine Q0 rfl Ad rfl rfl rfl rfl ‹_› rfl ?_;rw [show QZ s f (.ok r)=⟨⟨cells,tin,tout⟩,(f:Int)-r.rem,0⟩ by unfold QZ;simp only [hsv]]
     exact ⟨_,_,_,_,_,_,_,rfl,SV.sits.wide ‹_› (fun b h=>⟨by omega,by omega⟩),hsr,X⟩
   . refine eK ?_;refine eQ rfl (HK.out _ ‹_›) ?_;rintro _ wd9 ⟨ad1,⟨cd2,⟨tad3,⟨tcd4,⟨oad5,⟨ocd6,⟨⟨⟩,⟨hd7,xd8⟩⟩⟩⟩⟩⟩⟩⟩;revert h12 h4 h11 h18 h26 hs hv X;refine eY xd8 ?_;intro zd10 h12 h4 h11 h18 h26 hs hv X;refine C1 Mv (C1 (CA [_,_,_,_,_] Ad CY rfl rfl rfl rfl) (C1 Pa (eS [_,_,_,_,_] h26 ?_)));intro wd11 hd15 fd13 zd14;revert hd7 h12 h4 h11 h18 hs hv X;refine eF fd13 ?_;intro hd7 h12 h4 h11 h18 hs hv X;refine cT (AN (Ao ?_))
     refine Q0 rfl Ad rfl rfl rfl rfl ‹_› rfl ?_;subst hZ
     exact ⟨_,_,_,_,_,_,_,rfl,SV.sits.wide ‹_› (fun b h=>⟨by omega,by omega⟩),hsm,X⟩
def ResR (res:ResV) (w:wD):Ending->wD->Prop:=fun e w'=> ∃a c ta tc oa oc,e = .returned (.agg (res.row a c ta tc oa oc).toArray)/\res.st.sits (fun b=>w.heap.size<=b/\b<w'.heap.size) w' a ta oa/\res.st.small/\Ext w w'
def ResR.ret {F:ResV} {w w':wD} {e:Ending} (h:ResR F w e w') : ∃v,e = .returned v:=by
 obtain ⟨_,_,_,_,_,_,h,-⟩:=h;exact ⟨_,h⟩
def N6 (g:PG) (V:g.wf) (Y:g.ok=true) (h0:g.flt=0) (s:SV) (hf:FitsP g.vars s) (f:Nat) (ab:f<=10000) (d:Nat) (Z:AD (Au g.procs d) false g.main ⟨Dl g.vars s g.vars.length,f⟩≠.error (-1))
 (S:nP) (va:oA) (vc:Nat) (pa:oA) (pc:Nat) (ma:oA) (mc:Nat) (ca ta oa:oA) (cc tc oc:Nat) (w:wD) (L:g.sits S w va pa ma) (F:PDsC S w g.procs pa) (ac:g.vars.length<=vc) (M:s.sits S w ca ta oa) :
 Calls prog 14 #[.agg (g.cells va vc pa pc ma mc).toArray,.agg (s.row ca cc ta tc oa oc).toArray,.int .i64 f] w (ResR (QZ s f (AD (Au g.procs d) false g.main ⟨Dl g.vars s g.vars.length,f⟩)) w):=by
 have X:=eU w;have L:=L.ltA;have F:=F.ltA;have M:=M.ltA;have HB:=bU (fun w1 h1 h2 h3=>YG g V Y h0 s hf f ab false d Z (· < w.heap.size) va vc pa pc ma mc ca ta oa cc tc oc w1 h1 h2 ac h3);generalize QZ s f _=ad at *;clear V Y h0 hf Z;obtain ⟨⟨cells,tin,tout⟩,n,er⟩:=ad;refine Ac func14 ntmps14 rfl rfl ?_;refine cS (eB [_,_,_,_,_,_] ?_);intro b1 w2 U x5 p6 z7;revert X L F M;refine eE x5 ?_;intro X L F M;refine eB [_,_,_] ?_;intro b8 w9 G ae aq ar;revert U X L F M;refine eE ae ?_;intro U X L F M;refine eA [_,_,_,_,_] ?_;intro au av N af aw z22;revert G U X L F M;refine eE af ?_;intro G U X L F M;refine eK ?_;refine eQ rfl (HB.out _ Ae Ae Ae) ?_;rintro _ ax ⟨ay,⟨az,⟨a0,⟨am,⟨an,⟨ao,⟨ap,⟨⟨⟩,⟨O,⟨a1,ag⟩⟩⟩⟩⟩⟩⟩⟩⟩⟩;revert N G U X L F M;refine eY ag ?_;intro a2 N G U X L F M;refine eK ?_;refine eA [_,_,_,_,_] ?_;intro a3 a4 ah ai a5 a6;revert O N G U X L F M;refine eE ai ?_;intro O N G U X L F M;refine C1 Pa (eS [_,_,_,_,_] ah ?_);intro a7 aa aj z46;revert O N G U X L F M;refine eF aj ?_;intro O N G U X L F M;refine eK ?_;refine eS [_,_,_,_,_] N ?_;intro a8 ak al z51;revert aa O G U X L F M;refine eF al ?_;intro aa O G U X L F M;refine eK ?_;refine xC ak ?_;exact ⟨_,_,_,_,_,_,rfl,SV.sits.wide Ae (fun b h=>⟨Ab,Ab⟩),Ae,X⟩
end Bk
namespace Bk
open Go Go.RowKit Go.Proofs
mutual
def Nd.small:Nd->Int->Int->Bool×Int
 | .mk _ _ s l,d,m=>if m<1\/d=0\/40<s.length then (false,m-1) else DF l (d-1) (m-1)
def DF:List Nd->Int->Int->Bool×Int
 | [],_,m=>(true,m)
 | t::r,d,m=>if (t.small d m).1 then DF r d (t.small d m).2 else (false,(t.small d m).2)
end
mutual
def Q5 : ∀(t:Nd) (d m:Int),0<=m->((t.small d m).1=true->0<=(t.small d m).2/\(t.small d m).2<=m)
 | .mk _ _ s l,d,m,hm,h=>by
  simp only [Nd.small] at h ⊢;split at h
  . simp at h
  . rename_i hn;rw [As hn];have:=K5 l (d-1) (m-1) Ab h;omega
def K5 : ∀(l:List Nd) (d m:Int),0<=m->((DF l d m).1=true->0<=(DF l d m).2/\(DF l d m).2<=m)
 | [],_,m,hm,_=>by simp [DF,hm]
 | t::r,d,m,hm,h=>by
  simp only [DF] at h ⊢;split at h
  . rename_i ht;rw [AG ht];have h1:=Q5 t d m hm ht;have h2:=K5 r d (t.small d m).2 h1.1 h;omega
  . simp at h
end
def YH (N:Nat) : ∀(k n d m:Int) (s:lB) (l:List Nd) (a:oA) (c pb po:Nat) (S:nP) (w:wD),
 Aq l<N->(Nd.mk k n s l).wf->rowSits S w l a -> ¬S pb ->
 w.cell? ⟨pb,po,none⟩=some (.int .i64 m)->w.frozen? ⟨pb,po,none⟩=false->0<=m->m<=1000->0<=d->d<=1000 ->
 Calls prog 92 #[.agg #[.int .u8 k,.int .i64 n,str s,.slice a l.length c],.int .i64 d,.pointer (some ⟨pb,po,none⟩)] w fun e w'=>
  e = .returned (.bool ((Nd.mk k n s l).small d m).1)/\w'.cell? ⟨pb,po,none⟩=some (.int .i64 ((Nd.mk k n s l).small d m).2)/\w'.frozen? ⟨pb,po,none⟩=false/\Fr (· = pb) w w':=by
 induction N with
 | zero=>intro k n d m s l a c pb po S w h;omega
 | succ N ih=>
  intro k n d m s l a c pb po S w hN hwf hs hS hc hf hm0 hm1 hd0 hd1;have hpb:=Co hc;simp only [Nd.wf] at hwf;obtain ⟨hk0,hk1,hn0,hn1,hsl,hll,hrw⟩:=hwf
  have hpne : ¬w.heap.size=pb:=by simp at hpb;omega
  have hpne' : ¬pb=w.heap.size:=by simp at hpb;omega
  by_cases h1:m<1\/d=0\/40<s.length
  . have hr:(Nd.mk k n s l).small d m=(false,m-1):=by simp only [Nd.small];rw [AG h1]
    have HR:=bU hr;clear hr ih hs hrw
    by_cases e1:m<1
    . have d1:decide (m-1<0)=true:=by simp;omega
      clear h1
      go_enter func92,ntmps92
      go_wp2_with fail
      go_ret
      rw [HR.out]
      exact ⟨rfl,by go_simp,by go_simp,(by repeat (first|exact fC _ _|assumption|refine Fr.alloc ?_ _|refine Fr.drew ?_|refine Fr.setCell ?_ _ _ (bW rfl)|refine Fr.trans ?_ ‹_›))⟩
    . have d1:decide (m-1<0)=false:=by simp;omega
      by_cases e2:d=0
      . have d2:(d==0)=true:=by simp [e2]
        clear h1 e2
        go_enter func92,ntmps92
        go_wp2_with fail
        go_ret
        rw [HR.out]
        exact ⟨rfl,by go_simp,by go_simp,(by repeat (first|exact fC _ _|assumption|refine Fr.alloc ?_ _|refine Fr.drew ?_|refine Fr.setCell ?_ _ _ (bW rfl)|refine Fr.trans ?_ ‹_›))⟩
      . have d2:(d==0)=false:=by simp [e2]
        have d3:decide ((40:Int)<s.length)=true:=by simp;omega
        clear h1
        go_enter func92,ntmps92
        go_wp2_with fail
        go_ret
        rw [HR.out]
        exact ⟨rfl,by go_simp,by go_simp,(by repeat (first|exact fC _ _|assumption|refine Fr.alloc ?_ _|refine Fr.drew ?_|refine Fr.setCell ?_ _ _ (bW rfl)|refine Fr.trans ?_ ‹_›))⟩
  . have hr:(Nd.mk k n s l).small d m=DF l (d-1) (m-1):=by simp only [Nd.small];rw [As h1]
    have HR:=bU hr;clear hr
    have IH:=bU ih;clear ih
    have d1:decide (m-1<0)=false:=by simp;omega
    have d2:(d==0)=false:=by simp;omega
    have d3:decide ((40:Int)<s.length)=false:=by simp;omega
    have hm2:1<=m:=by omega
    have hd2:1<=d:=by omega
    clear h1
    go_enter func92,ntmps92
    go_wp2_with fail
    go_loopw [31] (fun i wr=> ∃(j:Nat) (mj:Int),j<=l.length/\i = .int .i64 j/\0<=mj/\mj<=1000/\Hid (DF l (d-1) (m-1)=DF (l.drop j) (d-1) mj) /\
     wr.cell? ⟨pb,po,none⟩=some (.int .i64 mj)/\wr.frozen? ⟨pb,po,none⟩=false/\Fr (· = pb) w wr) (fun i _=>l.length-(intOf i).toNat)
    case atStart=>exact ⟨0,m-1,cQ _,rfl,by omega,by omega,bU rfl,by go_simp,by go_simp,(by repeat (first|exact fC _ _|assumption|refine Fr.alloc ?_ _|refine Fr.drew ?_|refine Fr.setCell ?_ _ _ (bW rfl)|refine Fr.trans ?_ ‹_›))⟩
    case round=>
     obtain ⟨j,mj,hj,rfl,hmj0,hmj1,HJ,hcj,hfj,hfr⟩:=hrel;clear hc hf d1 d2 d3;have hpb':pb<wr.heap.size:=Co hcj
     by_cases hlt:j<l.length
     . have hg:l[j]? = some l[j]:=bT hlt
       have hmem:l[j]∈l:=cL hlt;have hwf:=BF hrw _ hmem;have hsz:=DP hmem;have hdrop:=dH hlt
       generalize l[j]=t at *
       obtain ⟨b,o,a',c',rfl,hSb,g0,g1,g2,g3,hsk⟩:=Fi (hs.fr hfr (fun b hb e=>hS (e▸hb))) hg;obtain ⟨k',n',s',l'⟩:=t;simp only [fS,Nd.num,Nd.name,gB,Nd.sits,fF] at g0 g1 g2 g3 hsk hsz
       have HG:=bU hg;clear hg
       have HD:=bU hdrop;clear hdrop
       go_wp2_with fail
       refine (IH.out k' n' (d-1) mj s' l' a' c' pb po S _ (by omega) hwf (hsk.ext ((eU _).alloc _)) hS (by go_simp) (by go_simp) hmj0 hmj1 (by omega) (by omega)).mono ?_;rintro e w1 ⟨rfl,hc1,hf1,hfr1⟩;have hle:=Q5 (Nd.mk k' n' s' l') (d-1) mj hmj0
       have hro:DF (Nd.mk k' n' s' l'::l.drop (j+1)) (d-1) mj=if ((Nd.mk k' n' s' l').small (d-1) mj).1 then DF (l.drop (j+1)) (d-1) ((Nd.mk k' n' s' l').small (d-1) mj).2 else (false,((Nd.mk k' n' s' l').small (d-1) mj).2):=rfl
       rw [<-HD.out,<-HJ.out] at hro
       generalize (Nd.mk k' n' s' l').small (d-1) mj=bm at *
       obtain ⟨bb,mm⟩:=bm;clear hcj hfj g0 g1 g2 g3;simp only at hc1 hle hro
       have HRO:=bU hro;clear hro
       cases bb
       . clear hle
         simp only
         go_wp2_with fail
         go_ret
         rw [HR.out,HRO.out]
         exact ⟨rfl,hc1,hf1,(by repeat (first|exact fC _ _|assumption|refine Fr.alloc ?_ _|refine Fr.drew ?_|refine Fr.setCell ?_ _ _ (bW rfl)|refine Fr.trans ?_ ‹_›))⟩
       . obtain ⟨hle0,hle1⟩:=hle rfl
         simp only
         go_wp2_with fail
         go_roundw
         case rel=>exact ⟨j+1,mm,by omega,by go_num,hle0,by omega,HRO,hc1,hf1,(by repeat (first|exact fC _ _|assumption|refine Fr.alloc ?_ _|refine Fr.drew ?_|refine Fr.setCell ?_ _ _ (bW rfl)|refine Fr.trans ?_ ‹_›))⟩
         case measure=>simp [intOf];omega
     . go_wp2_with fail
       go_ret
       have e1:l.drop j=[]:=List.drop_eq_nil_of_le (by omega);rw [HR.out,HJ.out,e1]
       exact ⟨rfl,hcj,hfj,hfr⟩
def Ext.frG {S:nP} {a b c:wD} (h:Ext a b) (k:Fr S b c) (G : ∀i,S i->a.heap.size<=i):Ext a c:=
 ⟨k.os.trans (Below.os h),k.tape.trans (Below.tape h),k.output.trans (Below.output h),dV h.size k.size,fun i F=>(k.block i (Nat.lt_of_lt_of_le F h.size) (fun e=>by have:=G i e;omega)).trans (h.block F)⟩
def Tk (t:Nd) (hwf:t.wf) (S:nP) (a:oA) (c:Nat) (w:wD) (hs:t.sits S w a) :
 Calls prog 50 #[t.val a c] w fun e w'=>e = .returned (.bool (!(t.small 24 200).1))/\Ext w w':=by
 obtain ⟨k,n,s,l⟩:=t;simp only [fS,Nd.num,Nd.name,gB,Nd.val];have hs':=SN _ _ hs;simp only [Nd.sits] at hs'
 go_enter func50,ntmps50
 go_wp2_with fail
 refine (YH (Aq l+1) k n 24 200 s l a c (w.heap.size+1) 0 (· < w.heap.size) _ (by omega) hwf (hs'.ext (by refine fG ?_ _;refine fG ?_ _;exact eU _)) (by omega) (by go_simp) (by go_simp) (by omega) (by omega) (by omega) (by omega)).mono ?_;rintro e w1 ⟨rfl,-,-,hf1⟩;simp only
 go_wp2_with fail
 go_ret
 exact ⟨rfl,Ext.frG (a:=w) (by refine fG ?_ _;refine fG ?_ _;exact eU _) hf1 (by rintro k rfl;omega)⟩
end Bk
