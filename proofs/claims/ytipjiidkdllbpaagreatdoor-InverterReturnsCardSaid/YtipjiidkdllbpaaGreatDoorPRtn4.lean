/- Texts that the proofs of InverterReturns need. No condition. (Part 4 of 8.) -/
import Derived.Test.YtipjiidkdllbpaaGreatDoorPRtn3
set_option linter.unusedSimpArgs false
set_option linter.unusedVariables false
set_option linter.defProp false
set_option maxRecDepth 100000
set_option maxHeartbeats 4000000
open Go.Proofs.Tryz
open List renaming getElem?_eq_getElem->bT,getD_eq_getElem?_getD->cB,length_cons->cF,getElem?_eq_none->cI,getElem?_append_left->cK,getElem_mem->cL,length_append->cP,getElem?_append_right->cW,take_length->dB,length_nil->dD,getElem?_cons_zero->dF,take_succ_eq_append_getElem->dG,drop_eq_getElem_cons->dH,replicate->dJ,mem_of_getElem?->dL,append_assoc->dP,mem_cons->dQ,getElem?_map->dZ,length_take->eH,not_mem_nil->eP
open Go.Lib renaming hid->bU
open Or renaming inl->bW,inr->bX
open Bool renaming and_eq_true->bZ,false_eq_true->dK
open Option.some renaming inj->cD,injEq->cE
open Go.Result renaming andThen->cG
open Nat renaming le_refl->cH,lt_or_ge->cO,zero_le->cQ,blt->cV,le_of_ble_eq_true->dE,eq_of_beq_eq_true->dO,le_trans->dV,ble->dW,beq->eC,zero_add->eJ
open Except renaming bind->cJ
open Go.Sem renaming run_bind->cU,run_pure->dC
open Go renaming Calls->cX
open Go.Value renaming slice->cY,int->dM,ownBlock->eR
open Go.Region renaming ready->cZ,binds->dT
open Go.IntWalk renaming i64_in->dA
open Go.Value.slice renaming injEq->dI
open Go.DataW renaming trod->dN
open Go.Builtin renaming zeroCells->dR
open List.cons renaming injEq->dU
open Array renaming getElem?_eq_none->dX,replicate->eO
open Go.Calls renaming mono->dY
open Go.Addr renaming add->eG
open Go.Oper renaming wp->eL
open Bk.Ext renaming refl->eU
open Bk.Nd.sits renaming fr->eW,wide->eX
open Bk.Blk renaming fr->fB,cell->fD,ext->fH,row->fN
open Bk.Fr renaming refl->fC,of_ext->fE,fr->fJ
open Bk.Nd renaming size->fF
open Bk.Row renaming fr->fK,ext->fL,at0->fV
open Bk.Stp renaming setCur->fU,items->fZ,leaves->gG,enters->gJ
open Bk.Win renaming blk->fW
open Bk.Own renaming fr->fX
open Bk.Ro renaming refl->gD
open Bk.FramesOk renaming move->gI
namespace Bk
open Go Go.RowKit Go.Proofs
attribute [local irreducible] Go.Calls
def SR {ts:List Tok} {σ σ':PS} (h:Le ts σ σ') (k:Lt σ σ') (e:σ'.err=0):mS ts σ'+1<=mS ts σ:=by
 have F:=h.ok e;have G:=k e;have L:=h.wf;unfold mS;rw [AG e,AG F];omega
def XI (c:PC) (k:Nat) (IH : ∀j,j<=k->StmtsC c j) (σ:PS) (w:wD) (hP:PP c σ w) (hk:4*mS c.ts σ+8<=k+1) :
 Calls prog 118 #[.pointer (some ⟨c.pb,0,none⟩)] w (TreeR c w (EK c.ts c.n (k+1) σ)):=by
 have X:=fC (· = c.pb) w;have hpb:=hP.pbB;have hB:=hP.B;have hlen:=hP.len;rw [EK]
 (try dsimp only)
 have l1:=AX (n:=c.n) (t:=[123]) hP.at_ AY;have m1:=Ed l1;have hmt:mS c.ts σ<=c.ts.length:=by unfold mS;split<;>omega
 refine Ac func118 ntmps118 rfl rfl ?_;refine cS (eA [_,_,_,_] ?_);intro b1 w2 h5 x6 p7 z8;revert hP X;refine eE x6 ?_;intro hP X;refine cN (C1 (xB [_,_,_,_]) (xA [_,_,_,_] ?_));intro b9 av M;refine eI [_,_,_,_] M ?_;intro aw u N ax ay;revert h5 hP X;refine eE N ?_;intro h5 hP X;refine eK ?_;refine cC rfl (CT _ _ _ _ Ae AY) ?_;rintro _ O ⟨⟨⟩,⟨Q,z⟩⟩;revert u h5;refine eZ z ?_;intro az u h5;clear hP;have X:=X.fr z Ab;refine cT (Ai (Av ?_));generalize AW c.ts c.n σ [123]=ρ at *;refine A1 (ι:=Nat×List Nd×oA×Nat×PS) (fun _=>[(0,.pointer (some ⟨c.pb,0,none⟩)),(2,.pointer (some ⟨b1,0,none⟩)),(3,.pointer (some ⟨b9,0,none⟩))])
  (fun x w'=>PP c x.2.2.2.2 w'/\Blk w' b9 [.int .u8 57,.int .i64 0,str [],.slice x.2.2.1 x.2.1.length x.2.2.2.1]/\OwnL ndShape w' (b9+1) 26 (.slice x.2.2.1 x.2.1.length x.2.2.2.1) x.2.1 /\
   Blk w' b1 [.int .u8 0,.int .i64 0,.string ⟨#[]⟩,.slice none 0 0]/\Fr (· = c.pb) w w'/\O.heap.size<=w'.heap.size /\
   DK c.ts c.n k [] ρ=DK c.ts c.n x.1 x.2.1 x.2.2.2.2/\(x.2.2.2.2.err=0->4*mS c.ts x.2.2.2.2+7<=x.1)/\1<=x.1/\x.1<=k/\(x.2.2.2.2.err=0->x.2.1.length+mS c.ts x.2.2.2.2<=1000001)) (fun x=>x.1) (k,[],none,0,ρ) sB
  ⟨Q,u,OwnL.nil,h5,X,cH _,rfl,fun _=>by simp only;omega,by simp only;omega,cH _,fun _=>by simp only [dD];omega⟩ ?_
 rintro ⟨j,acc,a,cap,σ'⟩ w1 ⟨hP,hbn,hown,hbr,X,hz,he,hfj,R,hjk,hacc⟩;simp only at hP hbn hown he hfj R hjk hacc;rw [he];obtain ⟨j,rfl⟩ : ∃i,j=i+1:=⟨j-1,Ab⟩
 have hob : ∀g,(cY a acc.length cap).ownBlock=some g->g<w1.heap.size:=fun g h=>hown.lt h
 by_cases h0:σ'.err=0
 case neg=>
  rw [show DK c.ts c.n (j+1) acc σ'=(acc,σ') from by rw [DK];simp [h0]];refine Ai (cS (C1 Mv (C1 Pn (C1 Pf (C1 (Pl (PP.blk hP)) ?_)))));refine eK ?_;refine eS [_,_,_,_] hbr ?_;intro a0 S T a1;clear hbr;revert hP hbn hown X;refine eF T ?_;intro hP hbn hown X;refine eK ?_;refine xC S ?_;exact A4 (Iy (hown.sits (fun b h=>by omega))) Ae X
 cases hc:DA c.ts σ' [125]
 case true=>
  rw [show DK c.ts c.n (j+1) acc σ'=(acc,AA σ') from by rw [DK];simp [h0,hc]];refine Ai (cS (C1 Mv (C1 Pn (C1 Pf (C1 (Pl (PP.blk hP)) ?_)))));refine eK ?_;refine cC rfl (DD _ _ _ _ Ae AY Ae) ?_;rintro _ a2 ⟨⟨⟩,⟨A,C⟩⟩;have a3:=C.size;clear hP;revert hbn hown hbr X;refine eF C ?_;intro hbn hown hbr X;refine eK ?_;refine eS [_,_,_,_] hbr ?_;intro a4 U V a5;clear hbr;revert A hbn hown X;refine eF V ?_;intro A hbn hown X;refine eK ?_;refine xC U ?_;exact A4 (Iy (hown.sits (fun b h=>by omega))) Ae X
 rw [show DK c.ts c.n (j+1) acc σ'=DK c.ts c.n j (acc++[(CH c.ts c.n j σ').1]) (AW c.ts c.n (CH c.ts c.n j σ').2 [59]) from by rw [DK];simp [h0,hc]];have l1:=(Fk (ts:=c.ts) (n:=c.n) j).1 σ' hP.at_;have l2:=AX (n:=c.n) (t:=[59]) l1.wf AY;have hlt:Lt σ' (AW c.ts c.n (CH c.ts c.n j σ').2 [59]):=Lt.of_le l1 Ew;have hdrop:=SR (l1.trans l2) hlt;have hmv:=ZY (l1.trans l2) hlt;have W:=hacc h0;have ab:=hfj h0;refine Ai (cS (C1 Mv (C1 Pn (C1 Pf (C1 (Pl (PP.blk hP)) ?_)))));refine eK ?_;refine cC rfl (C2 _ _ _ _ Ae AY Ae) ?_;rintro _ D ⟨⟨⟩,⟨v,E⟩⟩;have a6:=E.size;clear hP;revert hbn hown hbr X;refine eF E ?_;intro hbn hown hbr X;refine eK ?_;refine Ar (fun wz=>Fr (· = c.pb) D wz) 5 (.pure 0 (.pure 1 (.pure 2 (.fork 3 (.fork 4 .tail .none) .none)))) mixed A9 (Aa (Al (Aa (Al (Aa Ah))))) ?_;intro Y F _;have d:(fun wz=>Fr (· = c.pb) D wz) Y:=fE F;simp only at d;have Z:=v;have y:=hbn;have L:=hown;have aa:=hbr;revert v hbn hown hbr X;refine eY F ?_;intro a7 v hbn hown hbr X;refine ⟨d,?_⟩;refine Tq rfl Pf (Tq rfl (An Ad rfl rfl rfl (fun wz hz=>fD (fB y hz Ab) rfl)) (Tq rfl Mv ?_));refine tC rfl rfl ((IH j Ab).stmt _ _ Ae Ab) ?_;rintro _ ac ⟨a8,⟨ad,⟨⟨⟩,⟨q,⟨f,o⟩⟩⟩⟩⟩;have ae:=o.size;have d:=d.fr o Ab;revert hbn hown hbr X;refine eF o ?_;intro hbn hown hbr X;refine ⟨d,?_⟩;refine Ax rfl (xS [_,_,_,_]) rfl ?_ aFh Aw;rintro _ af ⟨ag,rfl,l,ah⟩
 have ai:=l.blk;have G:=l.ext;have aj:=l.pos;have ak:=l.size;revert q f d hbn hown hbr X;refine eE G ?_;intro q f d hbn hown hbr X;refine ⟨d,?_⟩;refine At rfl (C7 (sh:=ndShape) Ad CY rfl rfl rfl rfl A9 rfl rfl rfl hown (fN Ae) ⟨_,_,rfl,eX Ae (fun b h=>⟨Ab,fun e=>by have:=hob _ e;omega⟩)⟩ Ab Ab rfl ?_);rintro al I am m p;have an:=p.size;revert f hbn;refine eF p ?_;intro f hbn;clear hown;revert hbr X;refine eF p ?_;intro hbr X;refine C1 Pf (eV [_] [_,_,_,_] hbn ?_);intro ao r J ap;clear hbn;revert m f hbr X;refine eF J ?_;intro m f hbr X;refine eK ?_;refine cC rfl (CT _ _ _ _ Ae AY) ?_;rintro _ aq ⟨⟨⟩,⟨ar,s⟩⟩;revert r m;refine eZ s ?_;intro au r m;revert hbr X;refine eF s ?_;intro hbr X;refine Ak (Af ?_);refine AI (j,acc++[(CH c.ts c.n j σ').1],some ⟨_,0,none⟩,_,AW c.ts c.n (CH c.ts c.n j σ').2 [59]) sB ⟨Ae,Ae,Ae,Ae,X,Ab,rfl,fun e=>by have:=hdrop e;simp only;omega,by simp only;omega,by simp only;omega,fun e=>?_⟩ AR;have:=hdrop e;simp only [cP,cF,dD];omega
def XJ (c:PC) (k:Nat):StmtsC c k:=by
 induction k using Nat.strongRecOn with
 | _ k G=>
  cases k with
  | zero=>exact ⟨fun _ _ _ h=>by omega,fun _ _ _ _ _ _ _ _ _ h=>by omega,fun _ _ _ _ h=>by omega,fun _ _ _ h=>by omega⟩
  | succ k=>
   have F : ∀j,j<=k->StmtsC c j:=fun j L=>G j Ab
   exact ⟨Zj c k F,RT c k F,XH c k F,XI c k F⟩
def M6 (l:List Nd) (x:Nd):Bb (l++[x])=max (Bb l) x.depth:=by
 induction l with
 | nil=>simp only [List.nil_append,Bb];omega
 | cons y r h=>simp only [List.cons_append,Bb,h];omega
mutual
def L2 : ∀t:Nd,1<=t.depth/\t.depth<=t.size
 | .mk _ _ _ l=>by
  have:=Ex l;simp only [Nd.depth,fF];omega
def Ex : ∀l:List Nd,0<=Bb l/\Bb l<=Aq l
 | []=>by simp [Bb,Aq]
 | t::r=>by
  have h1:=L2 t;have h2:=Ex r;simp only [Bb,Aq];omega
end
def He (l:List Nd) (x:Nd):Aq (l++[x])=Aq l+x.size:=by
 induction l with
 | nil=>simp [Aq]
 | cons y r h=>simp only [List.cons_append,Aq,h];omega
def FE (l:List Nd) (j:Nat):Aq (l.take j)<=Aq l:=by
 induction l generalizing j with
 | nil=>simp
 | cons x r h=>
  cases j with
  | zero=>simp [Aq]
  | succ j=>simp only [List.take_succ_cons,Aq];have:=h j;omega
def EM (l:List Nd):l.length<=Aq l:=by
 induction l with
 | nil=>simp [Aq]
 | cons x r h=>have:=Nd.size_pos x;simp only [Aq,cF];omega
def OH (N:Nat) : ∀(t:Nd) (S:nP) (a:oA) (c:Nat) (w:wD),t.size<N->t.size<=1000000000->t.sits S w a ->
 Calls prog 119 #[t.val a c] w fun e w'=>e = .returned (.int .i64 t.depth)/\Ext w w':=by
 induction N with
 | zero=>intro t S a c w h;omega
 | succ N ih=>
  rintro ⟨k,n,s,l⟩ S a c w hN hM F;have IH:=bU ih;clear ih;simp only [Nd.sits] at F;simp only [fF] at hN hM;have X:=eU w;have hl:=EM l;rw [show (Nd.mk k n s l).depth=Bb l+1 from by simp only [Nd.depth]];refine Ac func119 ntmps119 rfl rfl ?_;refine cS (eB [_,_,_,_] ?_);intro b1 w2 h4 x5 p6 z7;revert F X;refine eE x5 ?_;intro F X;refine C1 Pa (cN (C1 Pa (cT (Ai (cS (C1 Pf (C1 (Pl h4) (C1 Pz (C1 Mv (cT (Av ?_)))))))))));refine A1 (ι:=Nat) (fun j=>[(9,.int .i64 j),(8,.int .i64 l.length),(7,.slice a l.length c),(3,.int .i64 (Bb (l.take j)))]) (fun j w'=>rowSits S w' l a/\Ext w w'/\j<=l.length) (fun j=>l.length-j) 0 sB ⟨F,X,cQ _⟩ ?_;rintro j w1 ⟨F,X,hj⟩;by_cases G:j<l.length
  . obtain ⟨kb,ko,rfl,ae,L⟩:=BA F (by intro e;subst e;simp at G);obtain ⟨xa,xc,O,U⟩:=L j l[j] (bT G);have af:=DP (cL G);have ht:l.take (j+1)=l.take j++[l[j]]:=by rw [List.take_add_one,bT G];rfl
    have V:=Ex (l.take j);have ag:=FE l j;have Y:=FE l (j+1);have ah:=L2 l[j];rw [ht,He] at Y;clear L;generalize l[j]=x at *;refine eK ?_;refine xA [_,_,_,_] ?_;intro ai aj Z;refine eI [_,_,_,_] Z ?_;intro ak M aa al am;revert X F O U;refine eE aa ?_;intro X F O U;refine eK ?_;refine cC rfl (IH.out _ S _ _ _ Ab Ab Ae) ?_;rintro _ ac ⟨⟨⟩,ab⟩;revert M X F O U;refine eY ab ?_;intro ad M X F O U;refine C1 (Xi rfl rfl rfl) (C1 Pa (Ak (Af (Ag (Aj (C1 V7 (C1 Mv (Ak ?_))))))));refine AI (j+1) ?_ ⟨F,X,Ab⟩ Ab;refine AQ rfl (AQ rfl (AQ rfl (Bx rfl ?_ Cy)));rw [ht,M6]
  . have:j=l.length:=by omega
    subst this;have V:=Ex l;rw [dB];refine eK ?_;refine xR ?_;exact ⟨rfl,X⟩
def VM (N:Nat) : ∀(t:Nd) (S:nP) (a:oA) (c:Nat) (w:wD),t.size<N->t.size<=1000000000->t.sits S w a ->
 Calls prog 120 #[t.val a c] w fun e w'=>e = .returned (.int .i64 t.size)/\Ext w w':=by
 induction N with
 | zero=>intro t S a c w h;omega
 | succ N ih=>
  rintro ⟨k,n,s,l⟩ S a c w hN hM F;have IH:=bU ih;clear ih;simp only [Nd.sits] at F;simp only [fF] at hN hM;have X:=eU w;have hl:=EM l;rw [show ((Nd.mk k n s l).size:Int)=((Aq l:Nat):Int)+1 from by simp only [fF];omega];refine Ac func120 ntmps120 rfl rfl ?_;refine cS (eB [_,_,_,_] ?_);intro b1 w2 h4 x5 p6 z7;revert F X;refine eE x5 ?_;intro F X;refine C1 Pa (cN (C1 Pa (cT (Ai (cS (C1 Pf (C1 (Pl h4) (C1 Pz (C1 Mv (cT (Av ?_)))))))))));refine A1 (ι:=Nat) (fun j=>[(9,.int .i64 j),(8,.int .i64 l.length),(7,.slice a l.length c),(3,.int .i64 (((Aq (l.take j):Nat):Int)+1))]) (fun j w'=>rowSits S w' l a/\Ext w w'/\j<=l.length) (fun j=>l.length-j) 0 sB ⟨F,X,cQ _⟩ ?_;rintro j w1 ⟨F,X,hj⟩;by_cases G:j<l.length
  . obtain ⟨kb,ko,rfl,ae,L⟩:=BA F (by intro e;subst e;simp at G);obtain ⟨xa,xc,O,U⟩:=L j l[j] (bT G);have af:=DP (cL G);have ht:l.take (j+1)=l.take j++[l[j]]:=by rw [List.take_add_one,bT G];rfl
    have V:=Ex (l.take j);have ag:=FE l j;have Y:=FE l (j+1);have ah:=L2 l[j];rw [ht,He] at Y;clear L;generalize l[j]=x at *;refine eK ?_;refine xA [_,_,_,_] ?_;intro ai aj Z;refine eI [_,_,_,_] Z ?_;intro ak M aa al am;revert X F O U;refine eE aa ?_;intro X F O U;refine eK ?_;refine cC rfl (IH.out _ S _ _ _ Ab Ab Ae) ?_;rintro _ ac ⟨⟨⟩,ab⟩;revert M X F O U;refine eY ab ?_;intro ad M X F O U;refine C1 V7 (C1 Pa (Ak (Af (Ag (Aj (C1 V7 (C1 Mv (Ak ?_))))))));refine AI (j+1) ?_ ⟨F,X,Ab⟩ Ab;refine AQ rfl (AQ rfl (AQ rfl (Bx rfl ?_ Cy)));rw [ht,He];congr 1;omega
  . have:j=l.length:=by omega
    subst this;have V:=Ex l;rw [dB];refine eK ?_;refine xR ?_;exact ⟨rfl,X⟩
section
variable {ts:List Tok} {n:Int}
def C3 (σ:PS):(AA σ).at_=σ.at_+1:=rfl
def NH (k:Nat):(∀lv σ,σ.at_<=ts.length->(Cn ts n k lv σ).1.size+8*σ.at_<=8*(Cn ts n k lv σ).2.at_+1)/\(∀lv x σ,σ.at_<=ts.length->(Dt ts n k lv x σ).1.size+8*σ.at_<=8*(Dt ts n k lv x σ).2.at_+x.size) /\
 (∀ σ,σ.at_<=ts.length->(BK ts n k σ).1.size+8*σ.at_<=8*(BK ts n k σ).2.at_+1)/\(∀ σ,σ.at_<=ts.length->(BY ts n k σ).1.size+8*σ.at_<=8*(BY ts n k σ).2.at_+1) /\
 (∀ σ,σ.at_<=ts.length->(CB ts n k σ).1.size+8*σ.at_<=8*(CB ts n k σ).2.at_+1):=by
 induction k with
 | zero=>
  refine ⟨fun lv σ h=>?_,fun lv x σ h=>?_,fun σ h=>?_,fun σ h=>?_,fun σ h=>?_⟩
  . rw [Cn];simp [fF,Aq];omega
  . rw [Dt];simp;omega
  . rw [BK];simp [fF,Aq];omega
  . rw [BY];simp [fF,Aq];omega
  . rw [CB];simp [fF,Aq];omega
 | succ k ih=>
  obtain ⟨U,Z,V,iP,iL⟩:=ih;obtain ⟨O,lC,lU,lP,lL⟩:=Id (ts:=ts) (n:=n) k;refine ⟨fun lv σ h=>?_,fun lv x σ h=>?_,fun σ h=>?_,fun σ h=>?_,fun σ h=>?_⟩
  . rw [Cn];have F:=V σ h;have M:=Z lv (BK ts n k σ).1 (BK ts n k σ).2 (lU σ h).1.wf;omega
  . rw [Dt];split
    . simp;omega
    . rename_i op X;obtain ⟨Y,-⟩:=LY X;have G:=Bg (DO h (bW Y));split
      . simp;omega
      . have F:=U (EJ op+1) (AA σ) G.wf;have M:=Z lv (.mk op 0 [] [x,(Cn ts n k (EJ op+1) (AA σ)).1]) (Cn ts n k (EJ op+1) (AA σ)).2 (O (EJ op+1) (AA σ) G.wf).1.wf;have N:=(O (EJ op+1) (AA σ) G.wf).1.le;rw [C3] at F N;simp only [fF,Aq] at M;omega
  . rw [BK];split
    . rename_i L;have G:=Bg (Ct h L AY);have F:=V (AA σ) G.wf;rw [C3] at F;simp only [fF,Aq];omega
    . split
      . rename_i L;have G:=Bg (Ct h L AY);have F:=V (AA σ) G.wf;rw [C3] at F;simp only [fF,Aq];omega
      . exact iP σ h
  . rw [BY];split
    . have:=(NG (n:=n) (a:=0) (b:=9223372036854775807) h).le;simp only [fF,Aq];omega
    . split
      . rename_i L;have F:=Bg (Ct h L AY);have M:=F.trans (AX (n:=n) (t:=[40]) F.wf AY);have N:=M.trans (BW (n:=n) M.wf);have h4:=(N.trans (AX (n:=n) (t:=[41]) N.wf AY)).le;simp only [fF,Aq];omega
      . split
        . rename_i L;have F:=Bg (Ct h L AY);have M:=F.trans (AX (n:=n) (t:=[40]) F.wf AY);have N:=M.trans (BW (n:=n) M.wf);have h4:=(N.trans (AX (n:=n) (t:=[41]) N.wf AY)).le;simp only [fF,Aq];omega
        . split
          . rename_i L;have G:=Bg (Ct h L AY);have F:=U 1 (AA σ) G.wf;have M:=(AX (n:=n) (t:=[41]) (O 1 (AA σ) G.wf).1.wf AY).le;rw [C3] at F;simp only;omega
          . exact iL σ h
  . rw [CB];have h0:=BW (n:=n) h;have aa:=h0.le;split
    . rename_i L;have G:=Bg (Ct h0.wf L AY);have F:=U 1 (AA (BJ ts n σ).2) G.wf;have M:=(AX (n:=n) (t:=[93]) (O 1 _ G.wf).1.wf AY).le;rw [C3] at F;simp only [fF,Aq];omega
    . simp only [fF,Aq];omega
def F4 (l m:List Nd):Aq (l++m)=Aq l+Aq m:=by
 induction l with
 | nil=>simp [Aq]
 | cons x r h=>simp only [List.cons_append,Aq,h];omega
def Qc (σ:PS):(ED ts n σ).1.size=1:=rfl
def NI : ∀(k:Nat) (acc:List Nd) (σ:PS),σ.at_<=ts.length->Aq (Ea ts n k acc σ).1+8*σ.at_<=8*(Ea ts n k acc σ).2.at_+Aq acc
 | 0,acc,σ,h=>by rw [Ea];simp;omega
 | k+1,acc,σ,h=>by
  rw [Ea];split
  . rename_i N;have F:=Bg (Ct h N AY);generalize O:(if acc.length=8/\CF (AJ ts (AA σ)).text=true then Dc (AA σ) (AJ ts (AA σ)).pos 5 else AA σ)=ρ;have G:Le ts (AA σ) ρ:=by
     rw [<-O];split
     . exact JO F.wf _ _
     . exact Le.refl F.wf
    have L:=BW (n:=n) G.wf;have M:=NI k (acc++[(ED ts n ρ).1]) (ED ts n ρ).2 L.wf;rw [F4] at M;have V:(ED ts n ρ).2.at_>=σ.at_+1:=by
     have U:=G.le;have X:=L.le;rw [C3] at U;show (BJ ts n ρ).2.at_>=σ.at_+1;omega
    simp only [Aq,Qc] at M;omega
  . simp;omega
def NJ {k:Nat} {kind:Int} {σ:PS} (L:In ts σ):(JE ts n k kind σ).1.size+8*σ.at_<=8*(JE ts n k kind σ).2.at_+1:=by
 unfold JE;dsimp only;have h:=Bg L;have F:=h.trans (BW (n:=n) h.wf);have M:=F.trans (AX (n:=n) (t:=[40]) F.wf AY);have N:=(BW (n:=n) h.wf).le;have X:=(AX (n:=n) (t:=[40]) F.wf AY).le;rw [C3] at N;split
 . have:=C3 (AW ts n (BJ ts n (AA σ)).2 [40]);simp only [fF,Aq];omega
 . have G:=BW (n:=n) M.wf;have O:=G.le;have U:=NI (ts:=ts) (n:=n) k [(ED ts n (AW ts n (BJ ts n (AA σ)).2 [40])).1] (ED ts n (AW ts n (BJ ts n (AA σ)).2 [40])).2 G.wf;have V:=OG (n:=n) k [(ED ts n (AW ts n (BJ ts n (AA σ)).2 [40])).1] (ED ts n (AW ts n (BJ ts n (AA σ)).2 [40])).2 G.wf;have Y:=(AX (n:=n) (t:=[41]) V.wf AY).le;have Z:(ED ts n (AW ts n (BJ ts n (AA σ)).2 [40])).2.at_>=(AW ts n (BJ ts n (AA σ)).2 [40]).at_:=O;simp only [Aq,Qc] at U;simp only [fF];omega
def Hg {k:Nat} {σ:PS} (h:σ.at_<=ts.length):(CB ts n k σ).1.size+8*σ.at_<=8*(CB ts n k σ).2.at_+1:=(NH k).2.2.2.2 σ h
def F5 {k:Nat} {lv:Int} {σ:PS} (h:σ.at_<=ts.length):(Cn ts n k lv σ).1.size+8*σ.at_<=8*(Cn ts n k lv σ).2.at_+1:=(NH k).1 lv σ h
def Qd {k:Nat} {σ:PS} (h:σ.at_<=ts.length):(Gj ts n k σ).1.size+8*σ.at_<=8*(Gj ts n k σ).2.at_+1:=by
 unfold Gj;dsimp only;have N:=Hg (n:=n) (k:=k) h;have F:=F0 (n:=n) (k:=k) h;split
 . rename_i G;have L:=Bg (Ct F.wf G AY);have M:=Hg (n:=n) (k:=k) L.wf;rw [C3] at M;simp only [fF,Aq];omega
 . split
   . have:=(Ic (n:=n) F.wf).le;have:=F.le;simp only [fF,Aq];omega
   . rename_i G;have L:=Bg (DO F.wf (bW (RS G)));have M:=F5 (n:=n) (k:=k) (lv:=1) L.wf;rw [C3] at M;simp only [fF,Aq];omega
def L3 {k:Nat} {kind:Int} {σ:PS} (G:In ts σ):(H4 ts n k kind σ).1.size+8*σ.at_<=8*(H4 ts n k kind σ).2.at_+1:=by
 unfold H4;dsimp only;have h:=Bg G;have L:=Hg (n:=n) (k:=k) h.wf;have M:=F0 (n:=n) (k:=k) h.wf;have F:=AX (n:=n) (t:=[44]) M.wf AY;have O:=(BW (n:=n) F.wf).le;have N:=F.le;rw [C3] at L;simp only [fF,Aq];omega
def IB {k:Nat} {kind:Int} {σ:PS} (h:In ts σ):(IW ts n k kind σ).1.size+8*σ.at_<=8*(IW ts n k kind σ).2.at_+1:=by
 unfold IW;have F:=Bg h;have G:=Hg (n:=n) (k:=k) F.wf;rw [C3] at G;simp only [fF,Aq];omega
def Uk (k:Nat):(∀ σ,σ.at_<=ts.length->(CH ts n k σ).1.size+8*σ.at_<=8*(CH ts n k σ).2.at_+1)/\(∀kind L G σ,In ts σ->L≠[]->G≠[]->(CV ts n k kind L G σ).1.size+8*σ.at_<=8*(CV ts n k kind L G σ).2.at_+1)/\(∀ σ,In ts σ->(FR ts n k σ).1.size+8*σ.at_<=8*(FR ts n k σ).2.at_+1) /\
 (∀ σ,σ.at_<=ts.length->(EK ts n k σ).1.size+8*σ.at_<=8*(EK ts n k σ).2.at_+2)/\(∀acc σ,σ.at_<=ts.length->Aq (DK ts n k acc σ).1+8*σ.at_<=8*(DK ts n k acc σ).2.at_+Aq acc+(if σ.err=0 then 1 else 0)):=by
 induction k with
 | zero=>
  refine ⟨fun σ h=>?_,fun kind L G σ h _ _=>?_,fun σ h=>?_,fun σ h=>?_,fun acc σ h=>?_⟩
  . rw [CH];simp [fF,Aq];omega
  . rw [CV];simp [fF,Aq];omega
  . rw [FR];simp [fF,Aq];omega
  . rw [EK];simp [fF,Aq];omega
  . rw [DK];simp only;split<;>omega
 | succ k ih=>
  obtain ⟨iS,iB,iL,Z,iT⟩:=ih;obtain ⟨lS,lB,lL,lK,lT⟩:=Fk (ts:=ts) (n:=n) k;refine ⟨fun σ h=>?_,fun kind L G σ hn X U=>?_,fun σ hn=>?_,fun σ h=>?_,fun acc σ h=>?_⟩
  . have F : ∀t:List UInt8,(AJ ts σ).text=t->t≠[]->In ts σ:=fun t e ht=>DO h (bW (by rw [e];exact ht))
    rw [CH]
    by_cases e:(AJ ts σ).text=[112,117,115,104]
    . rw [AG e];exact L3 (F _ e AY)
    rw [As e];clear e
    by_cases e:(AJ ts σ).text=[112,111,112]
    . rw [AG e];exact L3 (F _ e AY)
    rw [As e];clear e
    by_cases e:(AJ ts σ).text=[114,101,97,100]
    . rw [AG e];exact IB (F _ e AY)
    rw [As e];clear e
    by_cases e:(AJ ts σ).text=[117,110,114,101,97,100]
    . rw [AG e];exact IB (F _ e AY)
    rw [As e];clear e
    by_cases e:(AJ ts σ).text=[119,114,105,116,101]
    . rw [AG e];exact IB (F _ e AY)
    rw [As e];clear e
    by_cases e:(AJ ts σ).text=[117,110,119,114,105,116,101]
    . rw [AG e];exact IB (F _ e AY)
    rw [As e];clear e
    by_cases e:(AJ ts σ).text=[99,97,108,108]
    . rw [AG e];exact NJ (F _ e AY)
    rw [As e];clear e
    by_cases e:(AJ ts σ).text=[117,110,99,97,108,108]
    . rw [AG e];exact NJ (F _ e AY)
    rw [As e];clear e
    by_cases e:(AJ ts σ).text=[105,102]
    . rw [AG e];exact iB _ _ _ σ (F _ e AY) AY AY
    rw [As e];clear e
    by_cases e:(AJ ts σ).text=[102,114,111,109]
    . rw [AG e];exact iB _ _ _ σ (F _ e AY) AY AY
    rw [As e];clear e
    by_cases e:(AJ ts σ).text=[108,111,99,97,108]
    . rw [AG e];exact iL σ (F _ e AY)
    rw [As e];clear e
    exact Qd h
  . rw [CV]
    (try dsimp only);have M:=Bg hn;have s2:=F5 (n:=n) (k:=k) (lv:=1) M.wf;have N:=FD (n:=n) (k:=k) (lv:=1) M.wf;have s3:=Z _ N.wf;have O:=lK _ N.wf;have V:=AX (n:=n) O.wf X;have s5:=Z _ V.wf;have l5:=lK _ V.wf;have Y:=AX (n:=n) l5.wf U;have s7:=F5 (n:=n) (k:=k) (lv:=1) Y.wf;have e4:=V.le;have e6:=Y.le;rw [C3] at s2
    simp only [fF,Aq];omega
  . rw [FR]
    (try dsimp only);have M:=Bg hn
    split
    . rename_i hh
      have N:=Bg (Ct M.wf hh AY);have O:=BW (n:=n) N.wf;have s4:=Z _ O.wf;have e3:=O.le;rw [C3,C3] at e3
      simp only [fF,Aq];omega
    . have N:=BW (n:=n) M.wf
      have O:=AX (n:=n) (t:=[61]) N.wf AY;have s4:=F5 (n:=n) (k:=k) (lv:=1) O.wf;have V:=FD (n:=n) (k:=k) (lv:=1) O.wf;have s5:=Z _ V.wf;have l5:=lK _ V.wf;have Y:=AX (n:=n) (t:=[100,101,108,111,99,97,108]) l5.wf AY;have s7:=F5 (n:=n) (k:=k) (lv:=1) Y.wf;have e2:=N.le;have e3:=O.le;have e6:=Y.le;rw [C3] at e2
      simp only [fF,Aq];omega
  . rw [EK]
    (try dsimp only);have M:=AX (n:=n) (t:=[123]) h AY;have s2:=iT [] _ M.wf;have e1:=M.le;simp only [Aq] at s2;simp only [fF]
    split at s2<;>omega
  . rw [DK]
    split
    . simp only;(try split)<;>omega
    . rename_i he
      have h0:σ.err=0:=Decidable.byContradiction he
      split
      . rename_i hh
        have:=C3 σ
        simp only;(try split)<;>omega
      . have s1:=iS σ h
        have M:=lS σ h;have N:=AX (n:=n) (t:=[59]) M.wf AY;have s3:=iT (acc++[(CH ts n k σ).1]) _ N.wf;rw [F4] at s3;simp only [Aq] at s3;have e2:=N.le
        have e3:(AW ts n (CH ts n k σ).2 [59]).err=0->(CH ts n k σ).2.at_+1<=(AW ts n (CH ts n k σ).2 [59]).at_:=fun e=>Ew (n:=n) e
        (try rw [AG h0])
        split at s3
        . rename_i e;have:=e3 e;omega
        . omega
end
def SS (c:PC) (σ:PS) (t:Nd) (S:nP) (a:oA) (k:Nat) (off:Int) (w:wD) (h:PP c σ w) (hz:t.size<=1000000000) (F:t.sits S w a) :
 Calls prog 84 #[.pointer (some ⟨c.pb,0,none⟩),t.val a k,.int .i64 off] w fun r w'=>r = .returned (.tuple #[])/\PP c (DV t off σ) w'/\Fr (· = c.pb) w w':=by
 have X:=fC (· = c.pb) w;have ao:=h.pbB;have hB:=h.B;by_cases V:σ.err=0
 . by_cases Z:80<t.depth
   . rw [show DV t off σ=Dc σ off 19 from by simp [DV,V,Z]];refine Ac func84 ntmps84 rfl rfl ?_;refine cS (eB [_,_,_,_] ?_);intro b1 w2 Y x5 p6 z7;revert h F X;refine eE x5 ?_;intro h F X;refine cT (Av (cS (C1 Mv (C1 Pn (C1 Pf (C1 (Pl (PP.blk h)) ?_))))));refine eK ?_;refine cC rfl (OH _ _ _ _ _ _ (Nat.lt_succ_self _) Ab Ae) ?_;rintro _ w9 ⟨⟨⟩,x8⟩;revert Y h F X;refine eY x8 ?_;intro ap Y h F X;refine eK ?_;refine cC rfl (Ie _ _ _ _ _ Ae) ?_;rintro _ aq ⟨⟨⟩,⟨ar,N⟩⟩;have au:=N.size;have Y:=Y.fr N Ab;clear h F;have X:=X.fr N Ab;refine Ak (Af (Bs rfl ?_));exact ⟨rfl,Ae,X⟩
   . by_cases h2:2000<t.size
     . rw [show DV t off σ=Dc σ off 5 from by simp [DV,V,Z,h2]];refine Ac func84 ntmps84 rfl rfl ?_;refine cS (eB [_,_,_,_] ?_);intro av aw G aa ax ay;revert h F X;refine eE aa ?_;intro h F X;refine cT (Av (cS (C1 Mv (C1 Pn (C1 Pf (C1 (Pl (PP.blk h)) ?_))))));refine eK ?_;refine cC rfl (OH _ _ _ _ _ _ (Nat.lt_succ_self _) Ab Ae) ?_;rintro _ az ⟨⟨⟩,ab⟩;revert G h F X;refine eY ab ?_;intro af G h F X;refine eK ?_;refine cC rfl (VM _ _ _ _ _ _ (Nat.lt_succ_self _) Ab Ae) ?_;rintro _ ag ⟨⟨⟩,O⟩;revert G h F X;refine eY O ?_;intro ah G h F X;refine eK ?_;refine cC rfl (Ie _ _ _ _ _ Ae) ?_;rintro _ ai ⟨⟨⟩,⟨aj,L⟩⟩;have ak:=L.size;have G:=G.fr L Ab;clear h F;have X:=X.fr L Ab;refine Ak (Af (Bs rfl ?_));exact ⟨rfl,Ae,X⟩
     . rw [show DV t off σ=σ from by simp [DV,V,Z,h2]];refine Ac func84 ntmps84 rfl rfl ?_;refine cS (eB [_,_,_,_] ?_);intro a0 a1 M ac a2 a3;revert h F X;refine eE ac ?_;intro h F X;refine cT (Av (cS (C1 Mv (C1 Pn (C1 Pf (C1 (Pl (PP.blk h)) ?_))))));refine eK ?_;refine cC rfl (OH _ _ _ _ _ _ (Nat.lt_succ_self _) Ab Ae) ?_;rintro _ a4 ⟨⟨⟩,ad⟩;revert M h F X;refine eY ad ?_;intro al M h F X;refine eK ?_;refine cC rfl (VM _ _ _ _ _ _ (Nat.lt_succ_self _) Ab Ae) ?_;rintro _ am ⟨⟨⟩,U⟩;revert M h F X;refine eY U ?_;intro an M h F X;refine C1 V5 (C1 Pa (cT (Ds (Am (Af (Bs rfl ?_))))));exact ⟨rfl,Ae,X⟩
 . rw [show DV t off σ=σ from by simp [DV,V]];refine Ac func84 ntmps84 rfl rfl ?_;refine cS (eB [_,_,_,_] ?_);intro a5 a6 a7 ae a8 a9;revert h F X;refine eE ae ?_;intro h F X;refine cT (Av (cS (C1 Mv (C1 Pn (C1 Pf (C1 (Pl (PP.blk h)) (C1 V2 (C1 Pa (cT (Ph (Am ?_)))))))))));refine Af (Bs rfl ?_);exact ⟨rfl,Ae,X⟩
section
variable {ts:List Tok} {n:Int}
end
section
variable {ts:List Tok} {n:Int}
end
section
variable (ts:List Tok) (n:Int)
end
section
variable {ts:List Tok} {n:Int}
end
section
variable (ts:List Tok) (n:Int)
end
section
variable {ts:List Tok} {n:Int}
end
section
variable (ts:List Tok) (n:Int)
end
section
variable {ts:List Tok} {n:Int}
end
section
variable (ts:List Tok) (n:Int)
end
section
variable {ts:List Tok} {n:Int}
end
section
variable {ts:List Tok} {n:Int}
end
def PDs.wide {S S':nP} {w:wD} {l:List PD} {a:oA} (h:PDs S w l a) (F : ∀b,S b->S' b):PDs S' w l a:=
 h.mono F (fun _ _ _ _ _ ⟨G,pc,ba,bc,h1,h2,h3⟩=>⟨G,pc,ba,bc,h1,h2.wide F,h3.wide F⟩)
def Fg {α:Type} (p:α->Bool) (l:List α):(l.takeWhile p).length<=l.length:=by
 induction l with
 | nil=>simp
 | cons x r h=>simp only [List.takeWhile_cons];split<;>simp;exact h
def RU (s:lB):Iw s<=s.length:=by
 unfold Iw;split
 . rename_i h;rw [List.isPrefixOf_iff_prefix] at h;exact h.length_le
 . split
   . rename_i h;rcases s with _|⟨a,_|⟨b,r⟩⟩
     . exact absurd h AY
     . exfalso;simp [pairs] at h
     . simp
   . split
     . rename_i h;cases s with
       | nil=>simp at h
       | cons a r=>simp
     . omega
def KW (s:lB):(Ba s).2<=s.length:=by
 cases s with
 | nil=>simp [Ba]
 | cons c r=>
  simp only [Ba,Hz];split
  . exact Fg _ _
  . split
    . exact Fg _ _
    . split
      . exact Fg _ _
      . split
        . exact Fg _ _
        . exact RU _
def L4 {α:Type} (p:α->Bool) (l:List α):l.take (l.takeWhile p).length=l.takeWhile p:=by
 induction l with
 | nil=>simp
 | cons x r h=>simp only [List.takeWhile_cons];split<;>simp [h]
def M7 {α:Type} (p:α->Bool) (l:List α) : ∀x∈l.takeWhile p,p x=true:=by
 induction l with
 | nil=>simp
 | cons y r G=>
  simp only [List.takeWhile_cons];split
  . rename_i h;intro x F;rcases dQ.1 F with rfl|F
    . exact h
    . exact G x F
  . simp
def OI (c:UInt8) (h:FQ c=true):Do c=false:=by
 simp only [FQ,Do,bZ,decide_eq_true_eq,Bool.and_eq_false_iff,decide_eq_false_iff_not] at h ⊢;omega
def OJ (s:lB) (h:(Ba s).1=2):s.take (Ba s).2≠[] /\ ∀x∈s.take (Ba s).2,Do x=true:=by
 cases s with
 | nil=>simp [Ba] at h
 | cons c r=>
  simp only [Ba] at h ⊢;by_cases F:FQ c=true
  . simp [F] at h
  . by_cases G:Do c=true
    . simp only [F,G,if_true,dK,if_false,Hz];rw [L4];refine ⟨by simp [List.takeWhile_cons,G],M7 _ _⟩
    . exfalso;simp only [F,G,dK,if_false] at h;by_cases L:IV c=true
      . simp [L] at h
      . by_cases M:c=35
        . subst M;simp [L] at h
        . simp [L,M] at h
def M8 (s:lB) (M:s≠[]) (O:(Ba s).2≠0):(Ba s).1=2↔If (s.take (Ba s).2)=true:=by
 cases s with
 | nil=>exact absurd rfl M
 | cons c r=>
  obtain ⟨m,N⟩ : ∃m,(Ba (c::r)).2=m+1:=⟨(Ba (c::r)).2-1,Ab⟩;rw [N];simp only [List.take_succ_cons,If,Ba];by_cases h:FQ c=true
  . simp [h,OI c h]
  . by_cases G:Do c=true
    . simp [h,G]
    . simp only [h,G,dK,if_false,iff_false];by_cases F:IV c=true
      . simp [F]
      . by_cases L:c=35
        . subst L;simp [F]
        . simp [F,L]
structure TokOk (n:Nat) (t:Tok):Prop where
 len:t.text.length<=n
 num:t.kind=2->t.text≠[] /\ ∀x∈t.text,Do x=true
 dig:t.kind=2↔If t.text=true
 pos:0<=t.pos/\t.pos<=n
def Qe (s:lB) : ∀(k p:Nat) (acc:List Tok),(∀t∈acc,TokOk s.length t) -> ∀t∈(Fw k s p acc).1,TokOk s.length t
 | 0,p,acc,h=>by rw [Fw];exact h
 | k+1,p,acc,h=>by
  rw [Fw];split
  . rename_i O;split
    . simp
    . rename_i M;refine Qe s k _ _ ?_;intro t F;rcases List.mem_append.1 F with F|F
      . exact h t F
      . simp only [List.mem_singleton] at F;subst F;have G:s.drop p≠[]:=by
         intro e;have:=congrArg List.length e;simp at this;omega
        refine ⟨?_,?_,?_,?_⟩
        . simp only [eH,List.length_drop];omega
        . intro N;have L:(Ba (s.drop p)).1=2:=by simp only at N;omega
          exact OJ _ L
        . have:=M8 (s.drop p) G M;simp only;rw [<-this];omega
        . simp only;omega
  . exact h
def XK (s:lB) : ∀t∈(H5 s).1,TokOk s.length t:=by
 unfold H5;split
 . simp
 . have:=Qe s (s.length+1) 0 [] AR;split
   . rename_i l h;rw [h] at this;exact this
   . simp
def Qf (s:lB) : ∀t∈(Ec s).1,TokOk s.length t:=fun t h=>XK s t (List.mem_filter.1 h).1
def NK (s:lB) : ∀(k p:Nat) (acc:List Tok),acc.length<=p->p<=s.length->(Fw k s p acc).1.length<=s.length
 | 0,p,acc,h,F=>by rw [Fw];simp;omega
 | k+1,p,acc,h,F=>by
  rw [Fw];split
  . split
    . simp
    . rename_i G;have:=KW (s.drop p);rw [List.length_drop] at this;exact NK s k _ _ (by simp;omega) Ab
  . simp only;omega
def Qg (s:lB):(H5 s).1.length<=s.length:=by
 unfold H5;split
 . simp
 . have:=NK s (s.length+1) 0 [] AR Ab;split
   . rename_i l h;rw [h] at this;exact this
   . simp
def NL (s:lB):(Ec s).1.length<=s.length:=dV (List.length_filter_le _ _) (Qg s)
def Toks (S:nP) (w:wD) (l:List Tok) (a:oA):Prop:=Arr S 3 VE w l a
def Toks.ext {S:nP} {w w':wD} {l:List Tok} {a:oA} (h:Toks S w l a) (x:Ext w w'):Toks S w' l a:=h.mono aFh (fun _ _ _ _ _ h=>fL h x)
instance {S:nP} {w w':wD} {l:List Tok} {a:oA}:LfE w w' (Toks S w l a) (Toks S w' l a):=⟨fun x h=>Bk.Toks.ext h x⟩
def Toks.fr {S T:nP} {w w':wD} {l:List Tok} {a:oA} (h:Toks S w l a) (x:Fr T w w') (F : ∀b,S b -> ¬T b):Toks S w' l a:=h.mono aFh (fun b _ _ _ G h=>fK h x (F b G))
instance {S T:nP} {w w':wD} {l:List Tok} {a:oA}:LfF T w w' (Toks S w l a) (∀b,S b -> ¬T b) (Toks S w' l a):=⟨fun x s h=>Bk.Toks.fr h x s⟩
def Toks.wide {S S':nP} {w:wD} {l:List Tok} {a:oA} (h:Toks S w l a) (F : ∀b,S b->S' b):Toks S' w l a:=h.mono F (fun _ _ _ _ _ h=>h)
def Toks.lt2 {S:nP} {w:wD} {l:List Tok} {a:oA} (h:Toks S w l a):Toks (fun b=>S b/\b<w.heap.size) w l a:=by
 rcases h with h|⟨b,o,G,L,F⟩
 . exact bW h
 . cases l with
   | nil=>exact bW rfl
   | cons v r=>exact bX ⟨b,o,G,⟨L,Co (fV (F 0 v rfl) rfl)⟩,F⟩
def GL:Shape Tok where
 sz:=3
 rep:=fun _ _ v cs=>cs=v.cells
 len:=fun h=>by rw [h];rfl
 one:=fun h=>by rw [h];rfl
 mono:=fun h _ _=>h
 lt:=fun h=>h
def OwnL.toks {w:wD} {B e:Nat} {a:oA} {len cap:Nat} {xs:List Tok} {S:nP} (h:OwnL GL w B e (.slice a len cap) xs) (N : ∀b,B<=b->S b):Toks S w xs a:=by
 by_cases G:xs=[]
 . exact bW G
 . obtain ⟨g,L,M,O,F⟩:=h.rows G;simp only [dI] at M;obtain ⟨rfl,-,-⟩:=M;refine bX ⟨g,0,rfl,N g O,fun i x U=>?_⟩;obtain ⟨cs,V,rfl⟩:=F i x U;simpa [GL,VE] using V
def ST (t:lB) (w:wD) (h:t≠[]) (F:t.length<=9223372036854775807):Calls prog 51 #[str t] w fun e w'=>e = .returned (.tuple #[.int .u8 (Ba t).1,.int .i64 (Ba t).2])/\w=w':=by
 cases t with
 | nil=>exact absurd rfl h
 | cons c r=>exact SK c r w F
def LexR (w:wD) (r:List Tok×Int×Int):Ending->wD->Prop:=fun e w'=> ∃a k,e = .returned (.tuple #[.slice a r.1.length k,.int .i64 r.2.1,.int .i64 r.2.2])/\Toks (fun b=>w.heap.size<=b/\b<w'.heap.size) w' r.1 a/\Ext w w'
def LexR.ret {w:wD} {r:List Tok×Int×Int} {e:Ending} {w':wD} (h:LexR w r e w') : ∃v,e = .returned v:=by
 obtain ⟨_,_,h,-⟩:=h;exact ⟨_,h⟩
def ZZ (s:lB) (w:wD) (hs:s.length<=1000000):Calls prog 71 #[str s] w (LexR w (H5 s)):=by
 have X:=eU w;by_cases h0:65536<s.length
 . rw [show H5 s=([],0,5) from by simp [H5,h0]];refine Ac func71 ntmps71 rfl rfl ?_;refine eK ?_;refine Om rfl rfl rfl rfl ?_;exact ⟨_,_,rfl,bW rfl,X⟩
 have N : ∀r,Fw (s.length+1) s 0 []=r->H5 s=match r with|(l,none)=>(l,0,0)|(_,some p)=>([],(p:Int),3):=fun r hr=>by
  obtain ⟨l,o⟩:=r;cases o<;>simp [H5,h0,hr]
 have HU:=bU N;clear N;refine Ac func71 ntmps71 rfl rfl ?_;refine cS (C1 Pa (C1 Pa (C1 Pa (cT (Ai (cS (C1 Mv (C1 Py (C1 V5 (cT (Ds ?_)))))))))));refine Am (Ag (cS (C1 Pa (cT (Ai (cS (C1 Pa (cT (Av ?_)))))))));refine A1 (ι:=Nat×Nat×List Tok×oA×Nat) (fun x=>[(0,str s),(5,.slice x.2.2.2.1 x.2.2.1.length x.2.2.2.2),(6,.int .i64 x.2.1)])
  (fun x w'=>OwnL GL w' w.heap.size 128 (.slice x.2.2.2.1 x.2.2.1.length x.2.2.2.2) x.2.2.1/\Ext w w'/\x.2.1<=s.length/\x.2.2.1.length<=x.2.1/\s.length+1<=x.1+x.2.1 /\
   Fw (s.length+1) s 0 []=Fw x.1 s x.2.1 x.2.2.1) (fun x=>x.1) (s.length+1,0,[],none,0) sB ⟨OwnL.nil,X,cQ _,cH _,cH _,rfl⟩ ?_
 rintro ⟨j,p,acc,a,cap⟩ w1 ⟨F,X,hp,O,hj,Y⟩;simp only at F hp O hj Y;refine CW.sub (m:=[(0,str s),(5,.slice a acc.length cap),(6,.int .i64 p)]) ?_ sB;obtain ⟨j,rfl⟩ : ∃i,j=i+1:=⟨j-1,Ab⟩
 by_cases M:p<s.length
 . have U:s.drop p≠[]:=by
    intro e;have:=congrArg List.length e;simp at this;omega
   have Z:(s.drop p).length=s.length-p:=List.length_drop;have aa:=KW (s.drop p);rw [Z] at aa;by_cases hz:(Ba (s.drop p)).2=0
   . rw [HU.out ([],some p) (by rw [Y,Fw];simp [M,hz])];refine eK ?_;refine C1 (LA Ad rfl rfl rfl Ab) (cC rfl (ST _ _ U Ab) ?_);rintro _ ai ⟨⟨⟩,rfl⟩;refine eK ?_;refine Om rfl rfl rfl rfl ?_;exact ⟨_,_,rfl,bW rfl,X⟩
   . have ab:Fw (s.length+1) s 0 []=Fw j s (p+(Ba (s.drop p)).2) (acc++[⟨((Ba (s.drop p)).1:Nat),(s.drop p).take (Ba (s.drop p)).2,(p:Int)⟩]):=by rw [Y,Fw];simp [M,hz]
     refine eK ?_;refine C1 (LA Ad rfl rfl rfl Ab) (cC rfl (ST _ _ U Ab) ?_);rintro _ aj ⟨⟨⟩,rfl⟩;refine eK ?_;refine C1 (Ru Ad rfl rfl rfl rfl Ab) (C1 Mv (C1 (xB [_,_,_]) ?_));refine AC (xS [_,_,_]) rfl ?_ aFh;rintro _ ak ⟨al,rfl,G,am⟩;have ac:=G.blk;have ad:=G.ext;have an:=G.pos;have ao:=G.size;revert F X;refine eE ad ?_;intro F X;refine C7 (sh:=GL) (z:=⟨((Ba (s.drop p)).1:Nat),(s.drop p).take (Ba (s.drop p)).2,(p:Int)⟩) Ad CY rfl rfl rfl rfl A9 rfl rfl rfl F (fN Ae) rfl Ab (by have:=Ext.size X;omega) rfl ?_;rintro ae V af ag L;have ah:=L.size;clear ac F;have X:=X.fr L Ab;refine C1 Pa (cT (Aj (C1 Mv (C1 Mv (C1 V7 (C1 Pa (Ak (Af ?_))))))));refine AI (j,p+(Ba (s.drop p)).2,acc++[⟨((Ba (s.drop p)).1:Nat),(s.drop p).take (Ba (s.drop p)).2,(p:Int)⟩],some ⟨_,0,none⟩,_) sB ⟨Ae,X,by simp only;omega,by simp only [cP,cF,dD];omega,by simp only;omega,ab⟩ AR
 . rw [HU.out (acc,none) (by rw [Y,Fw];simp [M])];refine eK ?_;refine Om rfl rfl rfl rfl ?_;exact ⟨_,_,rfl,Toks.lt2 (S:=(w.heap.size <= ·)) (OwnL.toks F (fun b h=>h)),X⟩
def RV (l:List Tok) (t:Tok):El (l++[t])=El l++(if t.kind≠4/\t.kind≠5 then [t] else []):=by
 unfold El;rw [List.filter_append];congr 1;by_cases h:t.kind=4<;>by_cases F:t.kind=5<;>simp [h,F]
def SolidR (w:wD) (r:List Tok):Ending->wD->Prop:=fun e w'=> ∃a k,e = .returned (.slice a r.length k)/\Toks (fun b=>w.heap.size<=b/\b<w'.heap.size) w' r a/\Ext w w'
def SolidR.ret {w:wD} {r:List Tok} {e:Ending} {w':wD} (h:SolidR w r e w') : ∃v,e = .returned v:=by
 obtain ⟨_,_,h,-⟩:=h;exact ⟨_,h⟩
def XL (ts:List Tok) (S:nP) (Y:oA) (k0:Nat) (w:wD) (hl:ts.length<=1000000) (L:Toks S w ts Y) (hS : ∀b,S b->b<w.heap.size):Calls prog 72 #[.slice Y ts.length k0] w (SolidR w (El ts)):=by
 have X:=eU w;refine Ac func72 ntmps72 rfl rfl ?_;refine cS (C1 Pa (cN (C1 Pa (cT (Ai (cS (C1 Mv (C1 Pz (C1 Mv (cT (Av ?_)))))))))));refine A1 (ι:=Nat×oA×Nat) (fun x=>[(3,.slice x.2.1 (El (ts.take x.1)).length x.2.2),(6,.slice Y ts.length k0),(7,.int .i64 ts.length),(8,.int .i64 x.1)])
  (fun x w'=>OwnL GL w' w.heap.size 128 (.slice x.2.1 (El (ts.take x.1)).length x.2.2) (El (ts.take x.1))/\Ext w w'/\x.1<=ts.length/\Toks S w' ts Y) (fun x=>ts.length-x.1) (0,none,0) sB ⟨OwnL.nil,X,cQ _,L⟩ ?_
 rintro ⟨j,a,cap⟩ w1 ⟨F,X,hj,L⟩;simp only at F hj L;have ay:=X.size;refine CW.sub (m:=[(3,.slice a (El (ts.take j)).length cap),(6,.slice Y ts.length k0),(7,.int .i64 ts.length),(8,.int .i64 j)]) ?_ sB;by_cases Z:j<ts.length
 . have aa:ts.take (j+1)=ts.take j++[ts[j]]:=by rw [List.take_add_one,bT Z];rfl
   have G:El (ts.take (j+1))=El (ts.take j)++(if ts[j].kind≠4/\ts[j].kind≠5 then [ts[j]] else []):=by rw [aa,RV]
   have az:(El (ts.take j)).length<=1000000:=dV (List.length_filter_le _ _) (by rw [eH];omega);obtain ⟨tb,af,rfl,ag,U⟩:=L.get Ab;have O:Row w1 ⟨tb,af+j*3,none⟩ ts[j].cells:=U j _ (bT Z);have a0:=hS tb ag;clear U aa;generalize ts[j]=t at *;by_cases h4:t.kind=4
   . rw [show (if t.kind≠4/\t.kind≠5 then [t] else [])=[] from by simp [h4],List.append_nil] at G;refine eK ?_;refine xA [_,_,_] ?_;intro a1 a2 ah;refine eI [_,_,_] ah ?_;intro a3 ai aj a4 a5;revert F X L O;refine eE aj ?_;intro F X L O;refine cN (C1 Pg (C1 (Pl ai) (C1 V2 (C1 Mv (aQ (aQ (aQ (C1 Jq (cT (BD rfl (Am ?_)))))))))));refine Af (Ag (Aj (C1 V7 (C1 Mv (Ak ?_)))));refine AI (j+1,a,cap) ?_ ⟨by rw [G];exact F,X,by simp only;omega,L⟩ (by simp only;omega);refine Bx rfl (by rw [G]) sB
   by_cases h5:t.kind=5
   . rw [show (if t.kind≠4/\t.kind≠5 then [t] else [])=[] from by simp [h5],List.append_nil] at G;refine eK ?_;refine xA [_,_,_] ?_;intro a6 a7 ak;refine eI [_,_,_] ak ?_;intro a8 ab al a9 ba;revert F X L O;refine eE al ?_;intro F X L O;refine cN (C1 Pg (C1 (Pl ab) (C1 V2 (C1 Mv (Y4 (C1 Pg (Y4 (C1 (Pl ab) (Y4 (C1 V2 (C1 Rw ?_)))))))))));refine cT (Ds (Am (Af (Ag (Aj (C1 V7 (C1 Mv (Ak ?_))))))));refine AI (j+1,a,cap) ?_ ⟨by rw [G];exact F,X,by simp only;omega,L⟩ (by simp only;omega);refine Bx rfl (by rw [G]) sB
   . rw [show (if t.kind≠4/\t.kind≠5 then [t] else [])=[t] from by simp [h4,h5]] at G;refine eK ?_;refine xA [_,_,_] ?_;intro bb bc am;refine eI [_,_,_] am ?_;intro bd V an be bf;revert F X L O;refine eE an ?_;intro F X L O;refine eK ?_;refine AC (xS [_,_,_]) rfl ?_ aFh;rintro _ ao ⟨bg,rfl,M,ap⟩;have ac:=M.blk;have ad:=M.ext;have aq:=M.pos;have ar:=M.size;revert V F X L O;refine eE ad ?_;intro V F X L O;refine C7 (sh:=GL) (z:=t) Ad CY rfl rfl rfl rfl A9 rfl rfl rfl F (fN Ae) rfl Ab Ab rfl ?_;rintro au ae av aw N;have ax:=N.size;clear ac V F;have X:=X.fr N Ab;have L:=Toks.fr L N (fun k hk e=>by have:=hS k hk;omega);have O:=fK O N (by simp only;omega);refine C1 Pa (Ak (Af (Ag (Aj (C1 V7 (C1 Mv (Ak ?_)))))));refine AI (j+1,some ⟨_,0,none⟩,_) ?_ ⟨by rw [G];assumption,X,by simp only;omega,L⟩ (by simp only;omega);refine Bx rfl (by rw [G]) sB
 . have:j=ts.length:=by omega
   subst this;rw [dB] at F;refine eK ?_;refine xR ?_;rw [dB];exact ⟨_,_,rfl,Toks.lt2 (S:=(w.heap.size <= ·)) (OwnL.toks F (fun b h=>h)),X⟩
section
variable {P:Program} {n:Nat} {ops:Array Oper} {Q:Exit->Act->wD->Prop} {rest:List Oper} {l:Sl} {w:wD} {tab:Tab} {ty:TypeId} {pos:String} {after:Array Edge}
def Ul {x y z:Operand} {t kt e sz1 sz2 r:Nat} {k:lB} {v:Value} {kvs:List (lB×Value)} (T:TabOk P tab) (ht:Az tab t=some (.map kt e,sz1)) (hkt:Az tab kt=some (.str,sz2)) (hx:ev l x=some (.map (some r))) (hy:ev l y=some (str k)) (hz:ev l z=some v) (hm:MapIs w r kvs)
 (kk : ∀w1,MapIs w1 r (Lb kvs k v)->Fr (· = r) w w1->LW P n ops Q rest l w1):LW P n ops Q (⟨none,.mapUpdate t x y z,ty,pos,after,none⟩::rest) l w:=by
 refine Br (K:=Y2 w r (Lb kvs k v)) ?_ (fun v w1 h=>by cases v with|none=>exact kk w1 h.1 h.2.1|some _=>exact h.elim);unfold B5;intro a dst pos after g next Q ha _ hn;obtain ⟨w1,h1,h2,h3,h4⟩:=M0 (P:=P) (k:=k) (v:=v) T ht hkt hm;have e1:(execOp a.eval ⟨dst,.mapUpdate t x y z,ty,pos,after,g⟩).run P w = .ok .skip w1:=by
  simp only [execOp,ha.ev hx,ha.ev hy,ha.ev hz,cU,h1,cG,dC]
 unfold eL;rw [e1];exact hn w1 ⟨h2,h3,h4⟩
def RW {t d:Nat} (h:cV d n=true) (k : ∀r w1,r=w.heap.size->MapIs w1 r []->Ext w w1->w1.heap.size=r+1->LW P n ops Q rest ((d,.map (some r))::l) w1):LW P n ops Q (⟨some d,.makeMap t none,ty,pos,after,none⟩::rest) l w:=
 AC Ol h (fun v w1 ⟨r,h1,h2,h3,h4,h5⟩=>by subst h1;exact k r w1 h2 h3 h4 h5) aFh
end
def u8Shape:Shape Int where
 sz:=1
 rep:=fun _ _ v cs=>cs=[.int .u8 v]
 len:=fun h=>by rw [h];rfl
 one:=fun h=>by rw [h];rfl
 mono:=fun h _ _=>h
 lt:=fun h=>h
def Kv (j:Nat):List Int:=(List.range j).map fun (i:Nat)=>(8:Int)+(i:Int)
def Um (j:Nat):Kv (j+1)=Kv j++[8+(j:Int)]:=by simp [Kv,List.range_succ]
def Qh (j:Nat):(Kv j).length=j:=by simp [Kv]
def OpsR (w:wD):Ending->wD->Prop:=fun e w'=> ∃b k,e = .returned (.slice (some ⟨b,0,none⟩) 16 k)/\w.heap.size<=b/\b<w'.heap.size/\Row w' ⟨b,0,none⟩ ((Kv 16).map (.int .u8 ·))/\Ext w w'
def OpsR.ret {w:wD} {e:Ending} {w':wD} (h:OpsR w e w') : ∃v,e = .returned v:=by
 obtain ⟨_,_,h,-⟩:=h;exact ⟨_,h⟩
def Qi (w:wD):Calls prog 73 #[] w (OpsR w):=by
 have X:=eU w;refine Ac (args:=[]) func73 ntmps73 rfl rfl ?_;refine cS (C1 Pa (cN (C1 Pa (cT (Ai (cS (C1 Pa (cT (Av ?_)))))))));refine A1 (ι:=Nat×oA×Nat) (fun x=>[(1,.slice x.2.1 (Kv x.1).length x.2.2),(2,.int .u8 (8+(x.1:Int)))])
  (fun x w'=>OwnL u8Shape w' w.heap.size 5 (.slice x.2.1 (Kv x.1).length x.2.2) (Kv x.1)/\Ext w w'/\x.1<=16) (fun x=>16-x.1) (0,none,0) sB ⟨OwnL.nil,X,cQ _⟩ ?_
 rintro ⟨j,a,cap⟩ w1 ⟨h,X,hj⟩;simp only at h hj;have ac:=X.size;have hl:=Qh j;refine CW.sub (m:=[(1,.slice a (Kv j).length cap),(2,.int .u8 (8+(j:Int)))]) ?_ sB;by_cases ad:j<16
 . have L:=Um j;refine eK ?_;refine AC (xS [_]) rfl ?_ aFh;rintro _ ae ⟨af,rfl,F,ag⟩;have U:=F.blk;have V:=F.ext;have ah:=F.pos;have ai:=F.size;revert h X;refine eE V ?_;intro h X;refine C7 (sh:=u8Shape) (z:=8+(j:Int)) Ad CY rfl rfl rfl rfl A9 rfl rfl rfl h (fN Ae) rfl Ab Ab rfl ?_;rintro aj M Y Z G;have aa:=G.size;clear U h;have X:=X.fr G Ab;refine eK ?_;refine C1 (Oi rfl rfl (Xg _ Ab Ab)) (C1 Pa (Ak ?_));refine AI (j+1,some ⟨_,0,none⟩,_) ?_ ⟨by rw [L];assumption,X,by simp only;omega⟩ (by simp only;omega);refine Bx rfl (by rw [L]) (Bx rfl ?_ Cy);simp only [Value.int.injEq,true_and];omega
 . have:j=16:=by omega
   subst this;refine eK ?_;refine xR ?_;obtain ⟨g,ab,hv,hg,N⟩:=h.rows AY;simp only [dI] at hv;obtain ⟨rfl,-,-⟩:=hv;have O:Row w1 ⟨g,0,none⟩ ((Kv 16).map (.int .u8 ·)):=fun i v hi=>by
    rw [dZ,Option.map_eq_some_iff] at hi;obtain ⟨x,hx,rfl⟩:=hi;obtain ⟨cs,hr,rfl⟩:=N i x hx;have:=hr.at0 rfl;have e:(⟨g,0,none⟩:Addr).add i=⟨g,i*u8Shape.sz,none⟩:=by
     have:u8Shape.sz=1:=rfl;unfold eG;by_cases h0:i=0<;>simp [h0,this]
    rw [e];exact this
   exact ⟨g,cap,by rw [Qh],hg,h.lt rfl,O,X⟩
def Ja (t:Nd) (σ:PS):Nd×Int×Int:=if σ.err≠0 then (BO,σ.off,σ.err) else (t,0,0)
def WholeR (w:wD) (pb:Nat) (S:nP) (r:Nd×Int×Int):Ending->wD->Prop:=fun e w'=> ∃a k,e = .returned (.tuple #[r.1.val a k,.int .i64 r.2.1,.int .i64 r.2.2])/\r.1.sits S w' a/\Fr (· = pb) w w'
def WholeR.ret {w:wD} {F:Nat} {S:nP} {r:Nd×Int×Int} {e:Ending} {w':wD} (h:WholeR w F S r e w') : ∃v,e = .returned v:=by
 obtain ⟨_,_,h,-⟩:=h;exact ⟨_,h⟩
def SU (c:PC) (σ:PS) (t:Nd) (S:nP) (a:oA) (k:Nat) (w:wD) (U:PP c σ w) (hz:t.size<=1000000000) (M:t.sits S w a) (hS : ∀b,S b->b≠c.pb/\b<w.heap.size) :
 Calls prog 46 #[.pointer (some ⟨c.pb,0,none⟩),t.val a k] w (WholeR w c.pb S (Ja t (DV t 0 σ))):=by
 have X:=fC (· = c.pb) w;have ay:=U.pbB;have hB:=U.B;by_cases h:(DV t 0 σ).err=0
 . rw [show Ja t (DV t 0 σ)=(t,0,0) from by simp [Ja,h]];refine Ac func46 ntmps46 rfl rfl ?_;refine cS (eB [_,_,_,_] ?_);intro b1 w2 h4 x5 p6 z7;revert U M X;refine eE x5 ?_;intro U M X;refine eA [_,_,_,_] ?_;intro b8 w9 ac al az a0;revert h4 U M X;refine eE al ?_;intro h4 U M X;refine eK ?_;refine cC rfl (SS _ _ _ _ _ _ _ _ Ae Ab Ae) ?_;rintro _ a1 ⟨⟨⟩,⟨ad,ae⟩⟩;revert ac h4;refine eZ ae ?_;intro a2 ac h4;clear U;have M:=eW M ae (fun k hk e=>by have:=hS k hk;omega);have X:=X.fr ae Ab;refine cT (Ai (cS (C1 Mv (C1 Pn (C1 Pf (C1 (Pl (PP.blk ad)) ?_))))));refine eK ?_;refine eS [_,_,_,_] ac ?_;intro a3 am af a4;revert ad h4;refine eF af ?_;intro ad h4;have M:=eW M af (fun k hk e=>by have:=hS k hk;omega);have X:=X.fr af Ab;refine eK ?_;refine Jz rfl Ad rfl rfl rfl am rfl rfl rfl ?_;exact ⟨_,_,rfl,Ae,X⟩
 . rw [show Ja t (DV t 0 σ)=(BO,(DV t 0 σ).off,(DV t 0 σ).err) from by simp [Ja,h]];refine Ac func46 ntmps46 rfl rfl ?_;refine cS (eB [_,_,_,_] ?_);intro a5 a6 N an a7 a8;revert U M X;refine eE an ?_;intro U M X;refine eA [_,_,_,_] ?_;intro ag a9 G ah ap aq;revert N U M X;refine eE ah ?_;intro N U M X;refine eK ?_;refine cC rfl (SS _ _ _ _ _ _ _ _ Ae Ab Ae) ?_;rintro _ aa ⟨⟨⟩,⟨L,V⟩⟩;revert G N;refine eZ V ?_;intro ar G N;clear U;have M:=eW M V (fun k hk e=>by have:=hS k hk;omega);have X:=X.fr V Ab;refine cT (Ai (cS (C1 Mv (C1 Pn (C1 Pf (C1 (Pl (PP.blk L)) ?_))))));refine eK ?_;refine Ar (fun wz=>Fr (fun x=>x=ag) aa wz) 11 (.pure 0 (.pure 1 (.pure 2 (.pure 3 (.pure 4 (.pure 5 (.pure 6 (.pure 7 (.pure 8 (.fork 9 (.pure 10 .tail) .none)))))))))) mixed A9 (Aa (Aa Ah)) ?_;intro ai ab _;have F:(fun wz=>Fr (fun x=>x=ag) aa wz) ai:=fE ab;simp only at F;have O:=L;have ak:=G;have ao:=N;have au:=M;revert L G N M X;refine eY ab ?_;intro av L G N M X;refine ⟨F,?_⟩;refine Tq rfl (xB [_,_,_,_]) ?_;refine eT ?_;refine Tq rfl (An Ad rfl rfl rfl (fun wz hz=>fD (fB (PP.blk O) hz (by first|omega|(dsimp only;omega))) rfl)) ?_;refine eT ?_;refine Tq rfl (An Ad rfl rfl rfl (fun wz hz=>fD (fB (PP.blk O) hz (by first|omega|(dsimp only;omega))) rfl)) ?_;refine DS [_,_,_,_] [_,_,_,_] rfl Ad rfl rfl rfl rfl rfl rfl G rfl rfl ?_ Aw;intro aw Y;have aj:=Y.blk;have Z:=Y.fr;have ax:=Y.size;revert F L N;refine eF Z ?_;intro F L N;have M:=eW M Z (fun k hk e=>by have:=hS k hk;omega);have X:=X.fr Z Ab;refine ⟨F,?_⟩;refine Tq rfl Pa ?_;refine At rfl ?_;refine eK ?_;refine Jz rfl Ad rfl rfl rfl aj rfl rfl rfl ?_
   exact ⟨_,_,rfl,CZ,X⟩
def VN (j:Nat) (h:j<16):Lb (binMap.take j) (GZ (8+(j:Int))) (.int .u8 (8+(j:Int)))=binMap.take (j+1):=by
 have:j=0\/j=1\/j=2\/j=3\/j=4\/j=5\/j=6\/j=7\/j=8\/j=9\/j=10\/j=11\/j=12\/j=13\/j=14\/j=15:=by omega
 rcases this with rfl|rfl|rfl|rfl|rfl|rfl|rfl|rfl|rfl|rfl|rfl|rfl|rfl|rfl|rfl|rfl<;>rfl
def StartR (s:lB) (w:wD):Ending->wD->Prop:=fun e w'=> ∃c:PC,e = .returned (.pointer (some ⟨c.pb,0,none⟩))/\(c.ts=(Ec s).1/\c.n=s.length/\w.heap.size<=c.pb)/\PP c (Ec s).2 w'/\Ext w w'/\c.B<=w'.heap.size
def StartR.ret {s:lB} {w:wD} {e:Ending} {w':wD} (h:StartR s w e w') : ∃v,e = .returned v:=by
 obtain ⟨_,h,-⟩:=h;exact ⟨_,h⟩
def Syms.lt {w:wD} (h:Syms w):0<w.heap.size:=Co (h.sym 0 Ab)
def Errs.lt {w:wD} (h:Errs w):3<w.heap.size:=by
 obtain ⟨F,G,h⟩:=h.ex;exact Co h
def XM (s:lB) (w:wD) (hs:s.length<=1000000) (L:Syms w) (G:Errs w):Calls prog 43 #[str s] w (StartR s w):=by
 have X:=eU w;have ax:=L.lt;have ay:=G.lt;have az:=Qg s;refine Ac func43 ntmps43 rfl rfl ?_;refine eK ?_;refine eQ rfl (ZZ _ _ Ab) ?_;rintro _ w5 ⟨a1,⟨k2,⟨⟨⟩,⟨U,x4⟩⟩⟩⟩;revert L G X;refine eY x4 ?_;intro z6 L G X;refine eK ?_;refine eQ rfl (XL _ _ _ _ _ Ab Ae (by intro b h;exact h.2)) ?_;rintro _ af ⟨a7,⟨k8,⟨⟨⟩,⟨V,ag⟩⟩⟩⟩;revert U L G X;refine eY ag ?_;intro a0 U L G X;refine C1 Mv (C1 Py (RW rfl ?_));rintro a2 a3 rfl M ah a4;revert V U L G X;refine eY ah ?_;intro a5 V U L G X;refine eK ?_;refine C1 (xB [_,_,_,_,_,_]) (eB [_,_,_,_,_,_] ?_);intro Y a6 Z ai a8 a9;revert M V U L G X;refine eE ai ?_;intro M V U L G X;refine eK ?_;refine eQ rfl (Qi _) ?_;rintro _ aj ⟨aa,⟨ak,⟨⟨⟩,⟨ba,⟨bb,⟨al,am⟩⟩⟩⟩⟩⟩;revert Z M V U L G X;refine eY am ?_;intro bc Z M V U L G X;refine C1 Pz (C1 Mv (cT (Av ?_)));generalize hr:af.heap.size=r at *;refine A1 (ι:=Nat) (fun j=>[(6,.pointer (some ⟨Y,0,none⟩)),(24,.slice (some ⟨aa,0,none⟩) 16 ak),(25,.int .i64 16),(26,.int .i64 j)])
  (fun j w'=>j<=16/\MapIs w' r (binMap.take j)/\Row w' ⟨aa,0,none⟩ ((Kv 16).map (.int .u8 ·))/\Blk w' Y [.slice a7 (El (H5 s).1).length k8,.int .i64 0,.int .i64 s.length,.map (some r),.int .i64 (H5 s).2.1,.int .i64 (H5 s).2.2] /\
   Toks (fun b=>w5.heap.size<=b/\b<r) w' (El (H5 s).1) a7/\Syms w'/\Errs w'/\Ext w w'/\aj.heap.size<=w'.heap.size) (fun j=>16-j) 0 sB ⟨cQ _,M,al,Z,V,L,G,X,cH _⟩ ?_
 rintro j w1 ⟨hj,hM,F,hb,hT,L,G,X,hz⟩;by_cases an:j<16
 . have N:Row w1 ⟨aa,0+j*1,none⟩ [.int .u8 (8+(j:Int))]:=by
    have h1:=F.sub j 1;have e:(((Kv 16).map (.int .u8 ·)).drop j).take 1=[dM .u8 (8+(j:Int))]:=by
     have:j=0\/j=1\/j=2\/j=3\/j=4\/j=5\/j=6\/j=7\/j=8\/j=9\/j=10\/j=11\/j=12\/j=13\/j=14\/j=15:=by omega
     rcases this with rfl|rfl|rfl|rfl|rfl|rfl|rfl|rfl|rfl|rfl|rfl|rfl|rfl|rfl|rfl|rfl<;>rfl
    rw [e] at h1;rw [Nat.mul_one];exact h1
   have ab:=VN j an;refine eK ?_;refine Ar (fun wz=>Ext w1 wz) 7 (.pure 0 (.pure 1 (.pure 2 (.pure 3 (.pure 4 (.pure 6 (.fork 5 .tail .none))))))) mixed A9 (Al (Aa (Aa (Al (Aa Ah))))) ?_;intro ao ac _;have O:(fun wz=>Ext w1 wz) ao:=ac;simp only at O;have aq:=hM;have ae:=F;have ar:=hb;have au:=hT;have av:=L;have aw:=G;have ap:=N;revert hM F hb hT L G X N;refine eY ac ?_;intro bd hM F hb hT L G X N;refine ⟨O,?_⟩;refine eT ?_;refine tC rfl rfl (LK _ _ Ab Ab Ae) ?_;rintro _ be ⟨⟨⟩,rfl⟩;refine ⟨O,?_⟩;refine At rfl (Ul Ad rfl rfl rfl rfl rfl hM ?_);rintro bf bg ad;have bh:=ad.size;clear hM;revert F hb hT L G X N;refine eF ad ?_;intro F hb hT L G X N;refine Ak (Af (Ag (Aj (C1 V7 (C1 Mv (Ak ?_))))));refine AI (j+1) sB ⟨Ab,by rw [<-ab];assumption,F,hb,hT,L,G,X,Ab⟩ Ab
 . have:j=16:=by omega
   subst this;refine eK ?_;refine xR ?_;have bi:=X.size;refine ⟨⟨Y,w1.heap.size,El (H5 s).1,s.length,a7,k8,r⟩,rfl,⟨rfl,rfl,by simp only;omega⟩,?_,X,cH _⟩;refine ⟨hb,hT.wide (fun b h=>⟨by simp only;omega,by simp only;omega⟩),hM,by simp only;omega,by simp only;omega,by simp only;omega,cH _,cQ _,?_,fun t ht=>?_,fun t ht=>(Qf s t ht).num,G,by simp only;omega⟩
   . exact dV (NL s) hs
   . exact dV (Qf s t ht).len hs
def XN {c:PC} {s:lB} (h:c.ts=(Ec s).1) (σ:PS):4*mS c.ts σ+20<=H6 s:=by
 have G:=NL s;have F:mS c.ts σ<=c.ts.length:=by unfold mS;split<;>omega
 rw [h] at F;unfold H6;rw [h];omega
def ParseR (w:wD) (r:Nd×Int×Int):Ending->wD->Prop:=fun e w'=> ∃a k,e = .returned (.tuple #[r.1.val a k,.int .i64 r.2.1,.int .i64 r.2.2])/\r.1.sits (w.heap.size <= ·) w' a/\Ext w w'
def ParseR.ret {w:wD} {r:Nd×Int×Int} {e:Ending} {w':wD} (h:ParseR w r e w') : ∃v,e = .returned v:=by
 obtain ⟨_,_,h,-⟩:=h;exact ⟨_,h⟩
section
variable {ts:List Tok} {n:Int}
def VO (k:Nat) : ∀acc σ,σ.at_<=ts.length->Le ts σ (Dg ts n k acc σ).2:=by
 induction k with
 | zero=>intro acc σ h;rw [Dg];exact Le.refl h
 | succ k L=>
  intro acc σ h;rw [Dg];split
  . have F:=(Fk (ts:=ts) (n:=n) k).1 σ h;have G:=AX (n:=n) (t:=[59]) F.wf AY;exact (F.trans G).trans (L _ _ G.wf)
  . exact Le.refl h
def RX (k:Nat) : ∀acc σ,σ.at_<=ts.length->Aq (Dg ts n k acc σ).1+8*σ.at_<=8*(Dg ts n k acc σ).2.at_+Aq acc+(if σ.err=0 then 1 else 0):=by
 induction k with
 | zero=>intro acc σ h;rw [Dg];simp only;split<;>omega
 | succ k L=>
  intro acc σ h;rw [Dg];split
  . rename_i M;have U:=(Uk (ts:=ts) (n:=n) k).1 σ h;have N:=(Fk (ts:=ts) (n:=n) k).1 σ h;have G:=AX (n:=n) (t:=[59]) N.wf AY;have F:=L (acc++[(CH ts n k σ).1]) _ G.wf;rw [F4] at F;simp only [Aq] at F;have V:=G.le;have O:(AW ts n (CH ts n k σ).2 [59]).err=0->(CH ts n k σ).2.at_+1<=(AW ts n (CH ts n k σ).2 [59]).at_:=fun e=>Ew (n:=n) e
    rw [AG M.1];split at F
    . rename_i e;have:=O e;omega
    . omega
  . simp only;split<;>omega
end
def Kw (s:lB) (c:PC) (h:c.ts=(Ec s).1) (F:c.n=s.length):E1 s=Ja (.mk 57 0 [] (Dg c.ts c.n (H6 s) [] (Ec s).2).1) (DV (.mk 57 0 [] (Dg c.ts c.n (H6 s) [] (Ec s).2).1) 0 (Dg c.ts c.n (H6 s) [] (Ec s).2).2):=by
 unfold E1 Ja;rw [h,F]
def OK (s:lB) (w:wD) (hs:s.length<=1000000) (hS:Syms w) (hE:Errs w):Calls prog 18 #[str s] w (ParseR w (E1 s)):=by
 have X:=eU w;refine Ac func18 ntmps18 rfl rfl ?_;refine cS (eA [_,_,_,_] ?_);intro b1 w2 h5 x6 p7 z8;revert hS hE X;refine eE x6 ?_;intro hS hE X;refine eK ?_;refine eQ rfl (XM s _ hs Ae Ae) ?_;rintro _ bd ⟨c9,⟨⟨⟩,⟨⟨I,⟨ad,be⟩⟩,⟨m,⟨ae,bf⟩⟩⟩⟩⟩;revert h5 hS hE X;refine eY ae ?_;intro bg h5 hS hE X;refine eK ?_;refine C1 (xB [_,_,_,_]) (xA [_,_,_,_] ?_);intro v bh af;refine eI [_,_,_,_] af ?_;intro ag J ah bi bj;revert m h5 hS hE X;refine eE ah ?_;intro m h5 hS hE X;refine cT (Ai (Av ?_));have hf:=XN I (Ec s).2;have hat:=m.at_;have hlen:=m.len;have hpb:=m.pbB;have hB:=m.B;rw [Kw s c9 I ad];have hbs:=RX (n:=c9.n) (H6 s) [] _ hat;have hbw:=(VO (n:=c9.n) (H6 s) [] _ hat).wf;have hsz:(Nd.mk 57 0 [] (Dg c9.ts c9.n (H6 s) [] (Ec s).2).1).size<=1000000000:=by
  simp only [fF,Aq] at hbs ⊢;split at hbs<;>omega
 have hmt:mS c9.ts (Ec s).2<=c9.ts.length:=by unfold mS;split<;>omega
 clear hbs hbw;refine A1 (ι:=Nat×List Nd×oA×Nat×PS) (fun _=>[(2,.pointer (some ⟨b1,0,none⟩)),(3,.int .i64 0),(4,.int .i64 0),(5,.pointer (some ⟨c9.pb,0,none⟩)),(6,.pointer (some ⟨v,0,none⟩))])
  (fun x w'=>PP c9 x.2.2.2.2 w'/\Blk w' v [.int .u8 57,.int .i64 0,str [],.slice x.2.2.1 x.2.1.length x.2.2.2.1]/\OwnL ndShape w' (v+1) 26 (.slice x.2.2.1 x.2.1.length x.2.2.2.1) x.2.1 /\
   Blk w' b1 [.int .u8 0,.int .i64 0,.string ⟨#[]⟩,.slice none 0 0]/\Ext w w'/\ag.heap.size<=w'.heap.size /\
   Dg c9.ts c9.n (H6 s) [] (Ec s).2=Dg c9.ts c9.n x.1 x.2.1 x.2.2.2.2/\(x.2.2.2.2.err=0->4*mS c9.ts x.2.2.2.2+7<=x.1)/\1<=x.1/\(x.2.2.2.2.err=0->x.2.1.length+mS c9.ts x.2.2.2.2<=1000001)) (fun x=>x.1) (H6 s,[],none,0,(Ec s).2) sB
  ⟨m,J,OwnL.nil,h5,X,cH _,rfl,fun _=>by simp only;omega,by simp only;omega,fun _=>by simp only [dD];omega⟩ ?_
 rintro ⟨j,acc,a,cap,σ'⟩ w1 ⟨hP,hbn,hown,hbr,X,hz,he,hfj,ai,hacc⟩;simp only at hP hbn hown he hfj ai hacc;clear m J h5 hS hE;rw [he] at hsz ⊢;obtain ⟨j,rfl⟩ : ∃i,j=i+1:=⟨j-1,Ab⟩
 have hob : ∀g,(cY a acc.length cap).ownBlock=some g->g<w1.heap.size:=fun g h=>hown.lt h
 by_cases hc:σ'.err=0/\σ'.at_<c9.ts.length
 case neg=>
  rw [show Dg c9.ts c9.n (j+1) acc σ'=(acc,σ') from by rw [Dg];simp [hc]] at hsz ⊢;have hst:(Nd.mk 57 0 [] acc).sits (fun b=>w.heap.size<=b/\b≠c9.pb/\b≠b1/\b<w1.heap.size) w1 a:=eX (GI _ _ (Iy (hown.sits (S:=(v < ·)) (fun b h=>h)))) (fun b h=>⟨Ab,Ab,Ab,h.2⟩);by_cases h0:σ'.err=0
  . have h1 : ¬ σ'.at_<c9.ts.length:=fun h=>hc ⟨h0,h⟩
    refine eK ?_;refine Ar (fun wz=>Ext w1 wz) 15 (.pure 0 (.pure 1 (.pure 2 (.pure 3 (.pure 4 (.pure 5 (.pure 6 (.pure 7 (.pure 8 (.pure 9 (.pure 10 (.pure 11 (.pure 12 (.pure 13 (.pure 14 .tail))))))))))))))) mixed A9 (Aa (Aa (Aa (Al (Aa Ah))))) ?_;intro aj L _;have y:(fun wz=>Ext w1 wz) aj:=L;simp only at y;have c:=hP;have k:=hbn;have l:=hown;have o:=hbr;have F:=hst;revert hP hbn hown hbr X hst;refine eY L ?_;intro bk hP hbn hown hbr X hst;refine ⟨y,?_⟩;refine eT ?_;refine Tq rfl (An Ad rfl rfl rfl (fun wz hz=>fD (fH (PP.blk c) hz) rfl)) (Tq rfl V1 (Tq rfl Mv (Dm rfl rfl rfl rfl (Cq Ae) (AL rfl) rfl (Dm rfl rfl rfl rfl (Cq Ae) (Bc rfl) rfl (Dm rfl rfl rfl rfl (Cq Ae) (AO Ad rfl rfl rfl) rfl (Dm rfl rfl rfl rfl (Cq Ae) (An Ad rfl rfl rfl (fun wz hz=>fD (fH (PP.blk c) hz) rfl)) rfl (Dm rfl rfl rfl rfl (Cq Ae) (AL rfl) rfl (Dm rfl rfl rfl rfl (Cq Ae) (Bc rfl) rfl (Dm rfl rfl rfl rfl (Cq Ae) (BN Ad rfl rfl rfl) rfl (Dm rfl rfl rfl rfl (Cq Ae) (An Ad rfl rfl rfl (fun wz hz=>fD (fH (PP.blk c) hz) rfl)) rfl (Dm rfl rfl rfl rfl (Cq Ae) (Cp Ad rfl rfl) rfl ?_)))))))))));refine At rfl ?_;refine eK ?_;refine eQ rfl (SU _ _ (.mk 57 0 [] acc) _ _ _ _ Ae hsz Ae (by intro b h;exact ⟨Ab,Ab⟩)) ?_;rintro _ bl ⟨bm,⟨bn,⟨⟨⟩,⟨M,N⟩⟩⟩⟩;have an:=N.size;clear hP;revert hbn hown hbr X hst;refine eF N ?_;intro hbn hown hbr X hst;refine eK ?_;refine eS [_,_,_,_] hbr ?_;intro ao O Q ap;clear hbr;revert M hbn hown X hst;refine eF Q ?_;intro M hbn hown X hst;refine eK ?_;refine Jz rfl Ad rfl rfl rfl O rfl rfl rfl ?_
    exact ⟨_,_,rfl,eX Ae (fun b h=>by omega),X⟩
  . refine eK ?_;refine Ar (fun wz=>Ext w1 wz) 15 (.pure 0 (.pure 1 (.pure 2 (.pure 3 (.pure 4 (.pure 5 (.pure 6 (.pure 7 (.pure 8 (.pure 9 (.pure 10 (.pure 11 (.pure 12 (.pure 13 (.pure 14 .tail))))))))))))))) mixed A9 (Aa (Aa (Aa (Al (Aa Ah))))) ?_;intro ak R _;have z:(fun wz=>Ext w1 wz) ak:=R;simp only at z;have c:=hP;have k:=hbn;have l:=hown;have o:=hbr;have F:=hst;revert hP hbn hown hbr X hst;refine eY R ?_;intro bo hP hbn hown hbr X hst;refine ⟨z,?_⟩;refine eT ?_;refine Tq rfl (An Ad rfl rfl rfl (fun wz hz=>fD (fH (PP.blk c) hz) rfl)) (Tq rfl V1 (Tq rfl Mv (Dq rfl rfl rfl rfl (FO Ae) rfl (Dq rfl rfl rfl rfl (FO Ae) rfl (Dq rfl rfl rfl rfl (FO Ae) rfl (Dq rfl rfl rfl rfl (FO Ae) rfl (Dq rfl rfl rfl rfl (FO Ae) rfl (Dq rfl rfl rfl rfl (FO Ae) rfl (Dq rfl rfl rfl rfl (FO Ae) rfl (Dq rfl rfl rfl rfl (FO Ae) rfl (Dq rfl rfl rfl rfl (FO Ae) rfl ?_)))))))))));refine At rfl ?_;refine eK ?_;refine eQ rfl (SU _ _ (.mk 57 0 [] acc) _ _ _ _ Ae hsz Ae (by intro b h;exact ⟨Ab,Ab⟩)) ?_;rintro _ bp ⟨bq,⟨br,⟨⟨⟩,⟨T,U⟩⟩⟩⟩;have aq:=U.size;clear hP;revert hbn hown hbr X hst;refine eF U ?_;intro hbn hown hbr X hst;refine eK ?_;refine eS [_,_,_,_] hbr ?_;intro ar V W au;clear hbr;revert T hbn hown X hst;refine eF W ?_;intro T hbn hown X hst;refine eK ?_;refine Jz rfl Ad rfl rfl rfl V rfl rfl rfl ?_
    exact ⟨_,_,rfl,eX Ae (fun b h=>by omega),X⟩
 rw [show Dg c9.ts c9.n (j+1) acc σ'=Dg c9.ts c9.n j (acc++[(CH c9.ts c9.n j σ').1]) (AW c9.ts c9.n (CH c9.ts c9.n j σ').2 [59]) from by rw [Dg];simp [hc]] at hsz ⊢;obtain ⟨h0,h1⟩:=hc;have l1:=(Fk (ts:=c9.ts) (n:=c9.n) j).1 σ' hP.at_;have l2:=AX (n:=c9.n) (t:=[59]) l1.wf AY;have hlt:Lt σ' (AW c9.ts c9.n (CH c9.ts c9.n j σ').2 [59]):=Lt.of_le l1 Ew;have hdrop:=SR (l1.trans l2) hlt;have al:=hacc h0;have av:=hfj h0;refine eK ?_;refine Ar (fun wz=>Ext w1 wz) 15 (.pure 0 (.pure 1 (.pure 2 (.pure 3 (.pure 4 (.pure 5 (.pure 6 (.pure 7 (.pure 8 (.pure 9 (.pure 10 (.pure 11 (.pure 12 (.pure 13 (.pure 14 .tail))))))))))))))) mixed A9 (Aa (Aa (Aa (Al (Aa Ah))))) ?_;intro G Y _;have A:(fun wz=>Ext w1 wz) G:=Y;simp only at A;have c:=hP;have k:=hbn;have l:=hown;have o:=hbr;revert hP hbn hown hbr X;refine eY Y ?_;intro bs hP hbn hown hbr X;refine ⟨A,?_⟩;refine eT ?_;refine Tq rfl (An Ad rfl rfl rfl (fun wz hz=>fD (fH (PP.blk c) hz) rfl)) (Tq rfl V1 (Tq rfl Mv (Dm rfl rfl rfl rfl (Cq Ae) (AL rfl) rfl (Dm rfl rfl rfl rfl (Cq Ae) (Bc rfl) rfl (Dm rfl rfl rfl rfl (Cq Ae) (AO Ad rfl rfl rfl) rfl (Dm rfl rfl rfl rfl (Cq Ae) (An Ad rfl rfl rfl (fun wz hz=>fD (fH (PP.blk c) hz) rfl)) rfl (Dm rfl rfl rfl rfl (Cq Ae) (AL rfl) rfl (Dm rfl rfl rfl rfl (Cq Ae) (Bc rfl) rfl (Dm rfl rfl rfl rfl (Cq Ae) (BN Ad rfl rfl rfl) rfl (Dm rfl rfl rfl rfl (Cq Ae) (An Ad rfl rfl rfl (fun wz hz=>fD (fH (PP.blk c) hz) rfl)) rfl (Dm rfl rfl rfl rfl (Cq Ae) (Cp Ad rfl rfl) rfl ?_)))))))))))
 refine At rfl ?_;refine eK ?_;refine Ar (fun wz=>Fr (· = c9.pb) G wz) 5 (.pure 0 (.pure 1 (.pure 2 (.fork 3 (.fork 4 .tail .none) .none)))) mixed A9 (Aa (Al (Aa (Al (Aa Ah))))) ?_;intro am Z _;have d:(fun wz=>Fr (· = c9.pb) G wz) am:=fE Z;simp only at d;have c:=hP;have k:=hbn;have l:=hown;have o:=hbr;revert hP hbn hown hbr X;refine eY Z ?_;intro bt hP hbn hown hbr X;refine ⟨d,?_⟩;refine Tq rfl Pf (Tq rfl (An Ad rfl rfl rfl (fun wz hz=>fD (fB k hz Ab) rfl)) (Tq rfl Mv ?_));refine tC rfl rfl ((XJ c9 j).stmt _ _ Ae Ab) ?_;rintro _ aw ⟨bu,⟨ax,⟨⟨⟩,⟨C,⟨f,r⟩⟩⟩⟩⟩;have ay:=r.size;have d:=d.fr r Ab;clear hP;revert hbn hown hbr X;refine eF r ?_;intro hbn hown hbr X;refine ⟨d,?_⟩;refine Ax rfl (xS [_,_,_,_]) rfl ?_ aFh Aw;rintro _ az ⟨a0,rfl,p,a1⟩;have a2:=p.blk;have aa:=p.ext;have a3:=p.pos;have a4:=p.size;revert C f d hbn hown hbr X;refine eE aa ?_;intro C f d hbn hown hbr X;refine ⟨d,?_⟩;refine At rfl (C7 (sh:=ndShape) Ad CY rfl rfl rfl rfl A9 rfl rfl rfl hown (fN Ae) ⟨_,_,rfl,eX Ae (fun b h=>⟨Ab,fun e=>by have:=hob _ e;omega⟩)⟩ Ab Ab rfl ?_);rintro a5 ab a6 q u;have a7:=u.size;revert f hbn;refine eF u ?_;intro f hbn;clear hown;revert hbr X;refine eF u ?_;intro hbr X;refine C1 Pf (eV [_] [_,_,_,_] hbn ?_);intro a8 D ac a9;clear hbn;revert q f hbr X;refine eF ac ?_;intro q f hbr X;refine eK ?_;refine cC rfl (CT _ _ _ _ Ae AY) ?_;rintro _ ba ⟨⟨⟩,⟨bb,E⟩⟩;revert D q;refine eZ E ?_;intro bc D q;revert hbr X;refine eF E ?_;intro hbr X;refine Ak (Af ?_)
 refine AI (j,acc++[(CH c9.ts c9.n j σ').1],some ⟨_,0,none⟩,_,AW c9.ts c9.n (CH c9.ts c9.n j σ').2 [59]) sB ⟨Ae,Ae,Ae,Ae,X,Ab,rfl,fun e=>by have:=hdrop e;simp only;omega,by simp only;omega,fun e=>?_⟩ AR;have:=hdrop e;simp only [cP,cF,dD];omega
def GM {P:Program} {n:Nat} {l:Sl} {tab:Tab} {sz:Nat} {w:wD} {fn:Func} {R:Ending->wD->Prop} {M F b s:Nat} {O:Sk} {vs:lV} {v3:Value} (h:fn.results = #[.cell M F,.tmp s]) (T:TabOk P tab) (U:Az tab F=some (O,sz)) (V:O.agg=true) (X:look l M=some (.pointer (some ⟨b,0,none⟩))) (Y:Blk w b vs) (Z:vs.length=sz)
 (hz:look l s=some v3) (hR:R (.returned (.tuple #[.agg vs.toArray,v3])) w):QW n (bodyPost P fn R) .ret l w:=by
 unfold QW;intro a N;refine ⟨N.defers,.tuple #[.agg vs.toArray,v3],?_,hR⟩;have e:(loadVar F ⟨b,0,none⟩).run P w = .ok (.agg vs.toArray) w:=by
  simp only [cU,dC,cG,loadVar,DG (T _ _ _ U),V,if_true,Ck (T _ _ _ U)];rw [<-Z,CM Y.row]
 have G:=N.has M _ X;have L:=N.has s _ hz;simp only [Array.getD_eq_getD_getElem?] at G L;simp [results,h,G,L,e,asAddr]
def Qj {t:Nd} (F:t.wf) {b:Bool} (h:t.isStmt=b) (S:nP) (a:oA) (c:Nat) (w:wD) (G:t.sits S w a):Calls prog 47 #[t.val a c] w fun e w'=>e = .returned (.bool b)/\Ext w w':=by
 have:=PR S t F a c w G;rw [h] at this;exact this
def L5 {t:Nd} (F:t.wf) {b:Bool} (h:t.isBlock=b) (S:nP) (a:oA) (c:Nat) (w:wD) (G:t.sits S w a):Calls prog 48 #[t.val a c] w fun e w'=>e = .returned (.bool b)/\Ext w w':=by
 have:=Nz S t F a c w G;rw [h] at this;exact this
def StmtR (u:Nd) (w:wD):Ending->wD->Prop:=fun e w'=> ∃a c,e = .returned (.tuple #[u.val a c,.int .i64 0])/\u.sits (fun b=>w.heap.size<=b/\b<w'.heap.size) w' a/\Ext w w'
def StmtR.ret {u:Nd} {w:wD} {e:Ending} {w':wD} (h:StmtR u w e w') : ∃v,e = .returned v:=by
 obtain ⟨_,_,h,-⟩:=h;exact ⟨_,h⟩
def L6 (q:Bool) (t:Nd) (h:t.size<=1000000) (F:t.isStmt=true\/t.isBlock=true) (S:nP) (a:oA) (c:Nat) (w:wD) (G:t.sits S w a):Calls prog 39 #[t.val a c,.bool q] w (CopyR (t.inv q) w):=VA q (t.size+1) t S a c w Ab h F G
def XO {t:Nd} (M:t.wf) (hz:t.size<=1000000) (hv:t.isStmt=true\/t.isBlock=true) (S:nP) (a:oA) (c:Nat) (w:wD) (F:t.sits S w a):Calls prog 19 #[t.val a c] w (StmtR (t.inv false) w):=by
 have X:=eU w;have F:=BZ _ _ F;have HI:=bU (L6 false t hz hv);by_cases h:t.isStmt=true
 . have HS:=bU (Qj M h);clear M hv h;refine Ac func19 ntmps19 rfl rfl ?_;refine cS (eB [_,_,_,_] ?_);intro b1 w2 O x5 p6 z7;revert X F;refine eE x5 ?_;intro X F;refine eA [_,_,_,_] ?_;intro b8 w9 N ad ax ay;revert O X F;refine eE ad ?_;intro O X F;refine eK ?_;refine cC rfl (HS.out _ _ _ _ Ae) ?_;rintro _ az ⟨⟨⟩,ae⟩;revert N O X F;refine eY ae ?_;intro a0 N O X F;refine eK ?_;refine eQ rfl (HI.out _ _ _ _ Ae) ?_;rintro _ a1 ⟨a2,⟨c20,⟨⟨⟩,⟨V,af⟩⟩⟩⟩;revert N O X F;refine eY af ?_;intro a3 N O X F;refine eS [_,_,_,_] N ?_;intro a4 ag f27 z28;revert V O X F;refine eF f27 ?_;intro V O X F;refine C1 Pa (cT (AN ?_));refine GM rfl Ad rfl rfl rfl ag rfl rfl ?_;exact ⟨_,_,rfl,eX Ae (fun b h=>by omega),X⟩
 . have HS:=bU (Qj M (show t.isStmt=false by simpa using h));have HB:=bU (L5 M (hv.resolve_left h));clear M hv h;refine Ac func19 ntmps19 rfl rfl ?_;refine cS (eB [_,_,_,_] ?_);intro a5 a6 L ah a7 a8;revert X F;refine eE ah ?_;intro X F;refine eA [_,_,_,_] ?_;intro a9 ba G Y ai aj;revert L X F;refine eE Y ?_;intro L X F;refine eK ?_;refine cC rfl (HS.out _ _ _ _ Ae) ?_;rintro _ ak ⟨⟨⟩,Z⟩;revert G L X F;refine eY Z ?_;intro al G L X F;refine eK ?_;refine cC rfl (HB.out _ _ _ _ Ae) ?_;rintro _ am ⟨⟨⟩,aa⟩;revert G L X F;refine eY aa ?_;intro an G L X F;refine eK ?_;refine eQ rfl (HI.out _ _ _ _ Ae) ?_;rintro _ ao ⟨ap,⟨aq,⟨⟨⟩,⟨U,ab⟩⟩⟩⟩;revert G L X F;refine eY ab ?_;intro ar G L X F;refine eS [_,_,_,_] G ?_;intro au av ac aw;revert U L X F;refine eF ac ?_;intro U L X F;refine C1 Pa (cT (AN ?_));refine GM rfl Ad rfl rfl rfl Ae rfl rfl ?_;exact ⟨_,_,rfl,eX Ae (fun b h=>by omega),X⟩
def Qk (t:Nd) (M:t.size<=1000000) (u:Nd) (S S':nP) (a h:oA) (c G:Nat) (w:wD) (L:t.sits S w a) (F:u.sits S' w h):Calls prog 20 #[t.val a c,u.val h G] w fun e w'=>e = .returned (.bool (t.eqb u))/\Ext w w':=
 Xr (t.size+1) t u S S' a h c G w Ab Ab L F
def SW {t:Nd} (U:t.wf) (N:t.size<=1000000) (Y:t.isBlock=true) (S:nP) (a:oA) (c:Nat) (w:wD) (G:t.sits S w a):Calls prog 21 #[t.val a c] w fun e w'=>e = .returned (.bool (t.eqb (t.inv false)))/\Ext w w':=by
 have X:=eU w;have G:=BZ _ _ G;have HI:=bU (L6 false t N (bX Y));have HB:=bU (L5 U Y);have HE:=bU (Qk t N);clear U Y;refine Ac func21 ntmps21 rfl rfl ?_;refine cS (eB [_,_,_,_] ?_);intro b1 w2 M x5 p6 z7;revert X G;refine eE x5 ?_;intro X G;refine eK ?_;refine Ar (fun O=>Ext w2 O) 6 (.pure 0 (.fork 1 (.pure 2 (.pure 3 (.pure 4 (.fork 5 .tail .none)))) .none)) mixed A9 (Aa Ah) ?_;intro w8 x9 _;have F:(fun O=>Ext w2 O) w8:=x9;simp only at F;have L:=M;have ac:=G;revert M X G;refine eY x9 ?_;intro ad M X G;refine ⟨F,?_⟩;refine Tq rfl (xL [_,_,_,_] (fun O N=>(fH L N))) ?_;refine tC rfl rfl (HB.out _ _ _ _ Ae) ?_;rintro _ ae ⟨⟨⟩,Z⟩;revert F M X G;refine eY Z ?_;intro af F M X G;refine ⟨F,?_⟩;refine Tq rfl Mv (eN rfl (xL [_,_,_,_] (fun O N=>(fH L N))) (eN rfl (xL [_,_,_,_] (fun O N=>(fH L N))) ?_));refine Rs rfl rfl rfl rfl (rfl) (AU A9 rfl (HI.out _ _ _ _ Ae) (fun _ _ h=>h.ret)) rfl ?_ aFh Aw;rintro _ ag ⟨ah,⟨ai,⟨⟨⟩,⟨V,aa⟩⟩⟩⟩;revert F M X G;refine eY aa ?_;intro z22 F M X G;refine ⟨F,?_⟩;refine At rfl (Bh rfl rfl rfl (rfl) (cC rfl (HE.out _ _ _ _ _ _ _ _ Ae Ae) ?_));rintro _ aj ⟨⟨⟩,ab⟩;revert V M X G;refine eY ab ?_;intro ak V M X G;refine eK ?_;refine xR ?_
 exact ⟨rfl,X⟩
def VP:VD:=⟨[],0,0⟩
def RY {l:List VD} {j:Nat} (h:j<l.length) (s:lB):Ep (l.take (j+1)) s=if l[j].name=s then some l[j] else Ep (l.take j) s:=by
 unfold Ep;rw [dG h,List.reverse_append,List.reverse_singleton,List.singleton_append,List.find?_cons];by_cases F:l[j].name=s
 . simp [F]
 . simp [F]
def VDs.get {S:nP} {w:wD} {l:List VD} {a:oA} (h:VDs S w l a) (F:l≠[]) : ∃b o,a=some ⟨b,o,none⟩/\S b /\ ∀i v,l[i]? = some v->Row w ⟨b,o+i*3,none⟩ v.cells:=by
 rcases h with h|⟨b,o,G,L,M⟩
 . exact absurd h F
 . exact ⟨b,o,G,L,fun i v N=>M i v N⟩
def VDs.ltV {S:nP} {w:wD} {l:List VD} {a:oA} (h:VDs S w l a):VDs (· < w.heap.size) w l a:=h.lt2.wide fun _ h=>h.2
def OL (l:List VD) (hl:l.length<=1000000) (s:lB) (S:nP) (a:oA) (c:Nat) (w:wD) (h:VDs S w l a) :
 Calls prog 54 #[.slice a l.length c,str s] w fun e w'=>e = .returned (.tuple #[((Ep l s).getD VP).val,.bool (Ep l s).isSome])/\Ext w w':=by
 have X:=eU w;have h:=h.ltV;refine Ac func54 ntmps54 rfl rfl ?_;refine cS (eA [_,_,_] ?_);intro Z w2 h5 x6 p7 z8;revert X h;refine eE x6 ?_;intro X h;refine eK ?_;refine C1 (Bq rfl rfl (dA _ Ab)) (C1 Pa (cT ?_));refine Av ?_;refine A1 (ι:=Nat) (fun j=>[(0,.slice a l.length c),(1,str s),(4,.pointer (some ⟨Z,0,none⟩)),(6,.int .i64 ((j:Int)-1))])
  (fun j w'=>j<=l.length/\VDs (· < w.heap.size) w' l a/\Blk w' Z [.string ⟨#[]⟩,.int .u8 0,.int .i64 0]/\Ext w w'/\Ep l s=Ep (l.take j) s)
  (fun j=>j) l.length sB ⟨cH _,h,h5,X,by rw [dB]⟩ ?_
 clear h h5 X;rintro j w1 ⟨hj,h,M,X,G⟩;cases j with
 | zero=>
  have e0:Ep l s=none:=by rw [G];rfl
  rw [e0];refine eK ?_;refine C1 (xB [_,_,_]) (eS [_,_,_] M ?_);intro aa ab O ac;clear M;revert h X;refine eF O ?_;intro h X;refine C1 Pa (cT (AN ?_));refine GM rfl Ad rfl rfl rfl Ae rfl rfl ?_;exact ⟨rfl,X⟩
 | succ j=>
  have L:j<l.length:=by omega
  obtain ⟨kb,ko,rfl,kS,F⟩:=h.get (by intro e;subst e;simp at L);have N:=F j l[j] (bT L);have hn:=RY L s;rw [hn] at G;clear F hn;generalize l[j]=v at *;have U:(((j+1:Nat):Int)-1)=(j:Int):=by omega
  obtain ⟨vn,vk,vl⟩:=v;replace N:Row w1 ⟨kb,ko+j*3,none⟩ [str vn,.int .u8 vk,.int .i64 vl]:=N;dsimp only at G;rw [U]
  focus
   refine eK ?_;refine Ay rfl (fun V=>?_) (fun V=>?_);refine eK ?_;refine eS [_,_,_] M ?_;intro ad ae Y af;clear M;revert X h N;refine eF Y ?_;intro X h N;refine C1 Pa (cT (AN (AH (Ao (Ao (AH (Ao ?_)))))));rotate_left;refine eK ?_;refine C1 (Bq rfl rfl (dA _ Ab)) (C1 Pa (Ak ?_));rotate_left
  . refine GM rfl Ad rfl rfl rfl Ae rfl rfl ?_;rw [AG Ae] at G;rw [G];exact ⟨rfl,X⟩
  . rw [As Ae] at G;exact AI j sB ⟨Ab,h,M,X,G⟩ Ab
def LeX {α β:Type} (f g:α->Except Int β):Prop:= ∀a,f a≠.error (-1)->g a=f a
def LeX.refl {α β:Type} (f:α->Except Int β):LeX f f:=fun _ _=>rfl
def LeX.trans {α β:Type} {f g h:α->Except Int β} (G:LeX f g) (L:LeX g h):LeX f h:=fun a F=>by
 have e:=G a F;rw [L a (by rw [e];exact F),e]
def LeX.bind {α β γ:Type} {f f':α->Except Int β} {k L:β->Except Int γ} (h:LeX f f') (M:LeX k L):LeX (fun a=>(f a).bind k) (fun a=>(f' a).bind L):=fun a G=>by
 cases e:f a with
 | error x=>
  have F:f a≠.error (-1):=fun N=>by
   apply G;simp only [N,cJ]
  simp only [h a F,e,cJ]
 | ok v=>
  have F:f a≠.error (-1):=by rw [e];simp
  simp only [e,cJ] at G;simp only [h a F,e,cJ];exact M v G
def LeX.row {f g:Nd->Rn->Except Int Rn} : ∀(l:List Nd),(∀t∈l,LeX (f t) (g t))->LeX (E2 f l) (E2 g l)
 | [],_=>LeX.refl _
 | t::l,h=>LeX.bind (f:=f t) (h t AR) (LeX.row l (fun x F=>h x (by simp [F])))
def LeX.loop {M N G F:Rn->Except Int Rn} {test entry:Nd} (O:LeX M G) (U:LeX N F) : ∀(m m':Nat),m<=m'->LeX (Cs M N test entry m) (Cs G F test entry m')
 | 0,_,_=>fun a h=>absurd rfl h
 | m+1,0,h=>by omega
 | m+1,m'+1,h=>by
  refine LeX.bind (f:=M) O (LeX.bind (f:=BL test) (LeX.refl _) fun p L=>?_);cases hq:p.1
  . simp only [hq,dK,if_false] at L ⊢;exact LeX.bind (f:=fun p:Bool×Rn=>N p.2) (f':=fun p:Bool×Rn=>F p.2) (fun p L=>U p.2 L) (LeX.bind (f:=Bp entry false) (LeX.refl _) (LeX.loop O U m m' Ab)) p L
  . simp only [if_true]
def LeX.block {f g:Bool->Nd->Rn->Except Int Rn} (h : ∀b t,LeX (f b t) (g b t)) (b:Bool) (t:Nd):LeX (AD f b t) (AD g b t):=by
 unfold AD;exact LeX.row _ (fun x _=>h b x)
def Ql (ps:List PD) : ∀(d:Nat) (b:Bool) (t:Nd),LeX (Au ps d b t) (Au ps (d+1) b t)
 | 0,b,t=>fun r h=>absurd (by simp [Au]) h
 | d+1,b,.mk k n s l=>by
  have IH:=Ql ps d;have HB : ∀b t,LeX (AD (Au ps d) b t) (AD (Au ps (d+1)) b t):=fun b t=>LeX.block IH b t
  intro r
  conv=>lhs;unfold Au
  conv=>rhs;lhs;unfold Au
  conv=>rhs;rhs;unfold Au
  revert r;by_cases c1:k=52
  . simp only [AG c1];refine LeX.bind (f:=BL _) (LeX.refl _) fun p=>?_
    exact LeX.bind (f:=fun p:Bool×Rn=>AD (Au ps d) b (if p.1=true then Bw l 1 else Bw l 2) p.2) (f':=fun p:Bool×Rn=>AD (Au ps (d+1)) b (if p.1=true then Bw l 1 else Bw l 2) p.2) (fun p hp=>HB b _ p.2 hp) (LeX.refl (Bp _ p.1)) p
  simp only [As c1];by_cases c2:k=53
  . simp only [AG c2];exact LeX.bind (f:=Bp _ true) (LeX.refl _) (LeX.loop (HB b _) (HB b _) d (d+1) Ab)
  simp only [As c2];by_cases c3:k=54
  . simp only [AG c3];refine LeX.bind (f:=A7) (LeX.refl _) fun r=>?_
    refine LeX.bind (f:=fun r=>BH _ r) (f':=fun r=>BH _ r) (LeX.refl _) (fun v=>?_) r;refine LeX.bind (f:=fun v=>CI (·.opens ⟨s,1,0⟩ v) r) (f':=fun v=>CI (·.opens ⟨s,1,0⟩ v) r) (LeX.refl _) ?_ v;exact LeX.bind (HB b _) (LeX.refl _)
  simp only [As c3];by_cases c4:k=55
  . simp only [AG c4];exact LeX.bind (f:=A7) (LeX.refl _) (LeX.bind (f:=CI (·.opens ⟨s,3,0⟩ 0)) (LeX.refl _) (LeX.bind (HB b _) (LeX.refl _)))
  simp only [As c4];by_cases c5:k=50\/k=51
  . simp only [AG c5];exact LeX.bind (f:=A7) (LeX.refl _) (LeX.bind (f:=CI _) (LeX.refl _) (LeX.bind (HB _ _) (LeX.refl _)))
  . simp only [As c5];exact fun _ _=>trivial
def Kx (ps:List PD) (b:Bool) (t:Nd) {d F:Nat} (h:d<=F):LeX (Au ps d b t) (Au ps F b t):=by
 induction h with
 | refl=>exact LeX.refl _
 | step _ G=>exact G.trans (Ql ps _ b t)
def LeX.blockN {ps:List PD} {d F:Nat} (h:d<=F) (b:Bool) (t:Nd):LeX (AD (Au ps d) b t) (AD (Au ps F) b t):=LeX.block (fun b t=>Kx ps b t h) b t
def Dec (f:Rn->Except Int Rn):Prop:= ∀r r',f r = .ok r'->r'.rem<=r.rem
def A6 {α β:Type} {x:Except Int α} {k:α->Except Int β} {v:β} (h:x.bind k = .ok v) : ∃a,x = .ok a/\k a = .ok v:=by
 cases x with
 | error e=>simp [cJ] at h
 | ok a=>exact ⟨a,rfl,h⟩
def C4 {r F:Rn} (h:A7 r = .ok F):0<r.rem/\F=⟨r.st,r.rem-1⟩:=by
 unfold A7 at h;split at h
 . cases h
 . cases h;exact ⟨Ab,rfl⟩
def Fl {f:Stp->Int×Stp} {r F:Rn} (h:CI f r = .ok F):(f r.st).1=0/\F=⟨(f r.st).2,r.rem⟩:=by
 unfold CI at h;split at h
 . cases h
 . cases h;exact ⟨Ab,rfl⟩
def L7 {t:Nd} {r:Rn} {v:Int} (h:BH t r = .ok v):AT r.st.look t=(v,0):=by
 unfold BH at h;split at h
 . cases h
 . cases h;rename_i h;exact Prod.ext rfl Ab
def F6 {t:Nd} {r:Rn} {p:Bool×Rn} (h:BL t r = .ok p):0<r.rem/\p.2=⟨r.st,r.rem-1⟩ /\ ∃v,AT r.st.look t=(v,0)/\p.1=decide (v≠0):=by
 obtain ⟨M,F,h⟩:=A6 h;obtain ⟨v,G,h⟩:=A6 h;cases h;obtain ⟨L,rfl⟩:=C4 F;exact ⟨L,rfl,v,L7 G,rfl⟩
def Ey {t:Nd} {q:Bool} {r F:Rn} (h:Bp t q r = .ok F):0<r.rem/\F=⟨r.st,r.rem-1⟩ /\ ∃v,AT r.st.look t=(v,0)/\q=decide (v≠0):=by
 obtain ⟨p,G,h⟩:=A6 h;obtain ⟨L,M,v,N,O⟩:=F6 G;split at h
 . cases h
 . cases h;rename_i U;exact ⟨L,M,v,N,by rw [<-O];simpa using (Decidable.not_not.1 U).symm⟩
def Dec.row {f:Nd->Rn->Except Int Rn} : ∀(l:List Nd),(∀t,Dec (f t))->Dec (E2 f l)
 | [],_,r,F,h=>by cases h;exact cH _
 | t::l,G,r,F,h=>by
  obtain ⟨a,L,M⟩:=A6 h;have:=G t r a L;have:=Dec.row l G a F M;omega
def Dec.block {f:Bool->Nd->Rn->Except Int Rn} (h : ∀b t,Dec (f b t)) (b:Bool) (t:Nd):Dec (AD f b t):=Dec.row _ (h b)
def Dec.loop {F G:Rn->Except Int Rn} {test entry:Nd} (L:Dec F) (M:Dec G) : ∀m,Dec (Cs F G test entry m)
 | 0,r,V,h=>by cases h
 | m+1,r,V,h=>by
  obtain ⟨a,k1,h⟩:=A6 h;obtain ⟨p,X,h⟩:=A6 h;have e1:=L r a k1;obtain ⟨e2,N,-⟩:=F6 X;split at h
  . cases h;rw [N];simp only;omega
  . obtain ⟨c,Y,h⟩:=A6 h;obtain ⟨e,Z,h⟩:=A6 h;have O:=M _ _ Y;obtain ⟨e5,e6,-⟩:=Ey Z;have U:=Dec.loop L M m _ _ h;rw [N] at O;rw [e6] at U;simp only at O U;omega
def Ig (ps:List PD) : ∀(d:Nat) (b:Bool) (t:Nd),Dec (Au ps d b t)
 | 0,b,t,r,r',h=>by simp [Au] at h
 | d+1,b,.mk k n s l,r,r',h=>by
  have G : ∀b t,Dec (AD (Au ps d) b t):=Dec.block (Ig ps d);unfold Au at h;by_cases Z:k=52
  . simp only [AG Z] at h;obtain ⟨p,k1,h⟩:=A6 h;obtain ⟨c,O,h⟩:=A6 h;obtain ⟨U,e2,-⟩:=F6 k1;have F:=G _ _ _ _ O;obtain ⟨V,X,-⟩:=Ey h;rw [e2] at F;rw [X];simp only at F ⊢;omega
  simp only [As Z] at h;by_cases c2:k=53
  . simp only [AG c2] at h;obtain ⟨c,O,h⟩:=A6 h;obtain ⟨V,X,-⟩:=Ey O;have e6:=Dec.loop (G b _) (G b _) d _ _ h;rw [X] at e6;simp only at e6;omega
  simp only [As c2] at h;by_cases c3:k=54
  . simp only [AG c3] at h;obtain ⟨Y,k1,h⟩:=A6 h;obtain ⟨a2,O,h⟩:=A6 h;obtain ⟨a3,L,h⟩:=A6 h;obtain ⟨a4,M,h⟩:=A6 h;obtain ⟨a5,N,h⟩:=A6 h;obtain ⟨a6,k6,h⟩:=A6 h;obtain ⟨U,rfl⟩:=C4 k1;obtain ⟨-,rfl⟩:=Fl L;have F:=G _ _ _ _ M;obtain ⟨V,rfl⟩:=C4 N;obtain ⟨-,rfl⟩:=Fl h;simp only at F ⊢;omega
  simp only [As c3] at h;by_cases c4:k=55
  . simp only [AG c4] at h;obtain ⟨Y,k1,h⟩:=A6 h;obtain ⟨a3,L,h⟩:=A6 h;obtain ⟨a4,M,h⟩:=A6 h;obtain ⟨a5,N,h⟩:=A6 h;obtain ⟨U,rfl⟩:=C4 k1;obtain ⟨-,rfl⟩:=Fl L;have F:=G _ _ _ _ M;obtain ⟨V,rfl⟩:=C4 N;obtain ⟨-,rfl⟩:=Fl h;simp only at F ⊢;omega
  simp only [As c4] at h;by_cases c5:k=50\/k=51
  . simp only [AG c5] at h;obtain ⟨Y,k1,h⟩:=A6 h;obtain ⟨a3,L,h⟩:=A6 h;obtain ⟨a4,M,h⟩:=A6 h;obtain ⟨a5,N,h⟩:=A6 h;obtain ⟨U,rfl⟩:=C4 k1;obtain ⟨-,rfl⟩:=Fl L;have F:=G _ _ _ _ M;obtain ⟨V,rfl⟩:=C4 N;obtain ⟨-,rfl⟩:=Fl h;simp only at F ⊢;omega
  . simp only [As c5] at h;obtain ⟨Y,k1,h⟩:=A6 h;obtain ⟨U,rfl⟩:=C4 k1;obtain ⟨-,rfl⟩:=Fl h;simp only;omega
def VQ (k x y:Int):0<=(EZ k x y).2:=by
 have h : ∀(c:Prop) [Decidable c] (a b:Int×Int),0<=a.2->0<=b.2->0<=(if c then a else b).2:=fun c _ a b F G=>by split<;>assumption
 unfold EZ TF
 repeat' (first|apply h|exact Int.le_refl _|decide)
def VR (k x:Int):0<=(E0 k x).2:=by
 unfold E0
 repeat' split
 all_goals simp
def YS (at_:lB->Option (List Int)) : ∀(N:Nat) (t:Nd),t.size<N->0<=(AT at_ t).2
 | 0,_,h=>by omega
 | N+1,.mk k n s l,h=>by
  have F : ∀x∈l,0<=(AT at_ x).2:=fun x L=>by
   have:=Du L;simp only [fF] at h;exact YS at_ N x Ab
  unfold AT;by_cases G:k=1
  . simp [G]
  rw [As G];by_cases c2:k=2
  . rw [AG c2];split
    . simp
    . split<;>simp
  rw [As c2];by_cases c3:k=3
  . rw [AG c3];split
    . simp
    . split
      . have:=F _ (List.mem_singleton.2 rfl);split
        . exact this
        . split<;>simp
      . simp
  rw [As c3];by_cases c4:k=4
  . rw [AG c4];split
    . simp
    . split<;>simp
  rw [As c4];by_cases c5:k=5
  . rw [AG c5];split<;>simp
  rw [As c5];split
  . have:=F _ (List.mem_singleton.2 rfl);split
    . exact this
    . exact VR _ _
  . rename_i x y;have M:=F x AR;have O:=F y AR;split
    . exact M
    . split
      . exact O
      . exact VQ _ _ _
  . simp
def RZ (at_:lB->Option (List Int)) (t:Nd):0<=(AT at_ t).2:=YS at_ _ t (Nat.lt_succ_self _)
def Qm (at_:lB->Option (List Int)) (t:Nd):0<=(Bi at_ t).2:=by
 unfold Bi;split
 . simp
 . split
   . exact RZ _ _
   . simp
def Zk (v:List VD) (s:lB) (k:Int):0<=EC v s k:=by
 unfold EC;split
 . simp
 . split<;>simp
mutual
def VS (v:List VD) : ∀t:Nd,0<=t.bad v
 | .mk k n s l=>by
  unfold Nd.bad;split
  . exact Zk _ _ _
  . exact NM v l
def NM (v:List VD) : ∀l:List Nd,0<=Ft v l
 | []=>by simp [Ft]
 | t::r=>by
  unfold Ft;split
  . exact VS v t
  . exact NM v r
end
def XP (st:Stp) (k:Int) (s:lB) (l:List Nd):0<=(st.exec k s l).1:=by
 unfold Stp.exec;simp only;have h:=Qm st.look (l.getD 0 (.mk 0 0 [] []));have F:0<=(if k=43 then Bi st.look (l.getD 1 (.mk 0 0 [] [])) else if 40<=k/\k<=42 then AT st.look (l.getD 1 (.mk 0 0 [] [])) else (0,0)).2:=by
  split
  . exact Qm _ _
  . split
    . exact RZ _ _
    . simp
 generalize (if k=43 then Bi st.look (l.getD 1 (.mk 0 0 [] [])) else if 40<=k/\k<=42 then AT st.look (l.getD 1 (.mk 0 0 [] [])) else (0,0))=r at *;generalize Bi st.look (l.getD 0 (.mk 0 0 [] []))=a at *;split
 . exact h
 split
 . exact F
 unfold Stp.move Stp.transfer
 repeat' split
 all_goals simp
def XQ (st:Stp) (k n:Int) (s:lB) (l:List Nd):0<=(st.run1 k n s l).1:=by
 unfold Stp.run1;split
 . simp
 split
 . exact VS _ _
 . exact XP _ _ _ _
def Qo (st:Stp) (v:VD) (x:Int):0<=(st.opens v x).1:=by unfold Stp.opens;split<;>simp
def NN (st:Stp) (s:lB) (x:Int):0<=(st.closes s x).1:=by
 unfold Stp.closes;simp only
 repeat' split
 all_goals simp
def Qp (f:Frm) : ∀(ps:List VD) (h:List lB),0<=(BS f ps h).1
 | [],_=>by simp [BS]
 | _::_,[]=>by simp [BS]
 | v::r,s::q=>by
  unfold BS;split
  . simp
  . split
    . simp
    . exact Qp f r q
def Un (st:Stp) (ps:List VD) (h:List lB):0<=(st.enters ps h).1:=by
 unfold gJ;split
 . simp
 split
 . exact Qp _ _ _
 . split<;>simp
def Uo (st:Stp):0<=(st.leaves).1:=by unfold gG;split<;>simp
def Fine {α β:Type} (f:α->Except Int β):Prop:= ∀a,f a≠.error (-1)
def Ez:Fine A7:=fun r=>by unfold A7;split<;>simp
def Hh {f:Stp->Int×Stp} (h : ∀st,0<=(f st).1):Fine (CI f):=fun r=>by
 unfold CI;have:=h r.st;split
 . simp only [ne_eq,Except.error.injEq];omega
 . simp
def Jb (t:Nd):Fine (BH t):=fun r=>by
 unfold BH;have:=RZ r.st.look t;split
 . simp only [ne_eq,Except.error.injEq];omega
 . simp
def Fine.bind {α β γ:Type} {f:α->Except Int β} {k:β->Except Int γ} (h:Fine f) (F:Fine k):Fine (fun a=>(f a).bind k):=fun a=>by
 cases e:f a with
 | error x=>have:=h a;rw [e] at this;simpa [cJ,e] using this
 | ok v=>simpa [cJ,e] using F v
def Jc (t:Nd):Fine (BL t):=fun r=>by
 unfold BL;exact Fine.bind Ez (fun r=>Fine.bind (Jb t) (fun v=>by simp) r) r
def Ih (t:Nd) (q:Bool):Fine (Bp t q):=Fine.bind (Jc t) (fun p=>by split<;>simp)
def D7 {α β:Type} {x:Except Int α} {k:α->Except Int β} (h:x≠.error (-1)) (F : ∀v,x = .ok v->k v≠.error (-1)):x.bind k≠.error (-1):=by
 cases x with
 | error e=>simpa [cJ] using h
 | ok v=>simpa [cJ] using F v rfl
def NO {F:Nat->Nd->Rn->Except Int Rn} (L : ∀d U t,d<=U->LeX (F d t) (F U t)) (G : ∀d t,Dec (F d t)) (m:Nat) : ∀(l:List Nd),(∀t∈l,∀r,r.rem<=m -> ∃d,F d t r≠.error (-1)) -> ∀r:Rn,r.rem<=m -> ∃d,E2 (F d) l r≠.error (-1)
 | [],_,r,_=>⟨0,by simp [E2]⟩
 | t::l,h,r,Y=>by
  obtain ⟨M,O⟩:=h t AR r Y;cases e:F M t r with
  | error x=>
   refine ⟨M,?_⟩;simp only [E2,e,cJ];rw [e] at O;simpa using O
  | ok V=>
   obtain ⟨N,X⟩:=NO L G m l (fun x Z=>h x (by simp [Z])) V (by have:=G _ _ _ _ e;omega);refine ⟨max M N,?_⟩;simp only [E2];rw [L M (max M N) t Ab r O,e];simp only [cJ];rw [LeX.row l (fun x _=>L N (max M N) x Ab) V X];exact X
def KX {F:Nat->Bool->Nd->Rn->Except Int Rn} (M : ∀d L b t,d<=L->LeX (F d b t) (F L b t)) (G : ∀d b t,Dec (F d b t)) (m:Nat) (b:Bool) (t:Nd) (h : ∀x∈t.kids,∀r,r.rem<=m -> ∃d,F d b x r≠.error (-1)) (r:Rn) (O:r.rem<=m) : ∃d,AD (F d) b t r≠.error (-1):=by
 unfold AD;exact NO (F:=fun d=>F d b) (fun d L t h=>M d L b t h) (fun d t=>G d b t) m _ (fun x N=>h x (by split at N<;>simpa using N)) r O
def L8 {B1 B2:Nat->Rn->Except Int Rn} {test entry:Nd} (N : ∀d U,d<=U->LeX (B1 d) (B1 U)) (O : ∀d U,d<=U->LeX (B2 d) (B2 U)) (V : ∀d,Dec (B1 d)) (X : ∀d,Dec (B2 d)) (m:Nat)
 (h1 : ∀r,r.rem<=m -> ∃d,B1 d r≠.error (-1)) (h2 : ∀r,r.rem<=m -> ∃d,B2 d r≠.error (-1)) : ∀(q:Nat) (r:Rn),r.rem<=q->r.rem<=m -> ∃d,Cs (B1 d) (B2 d) test entry d r≠.error (-1)
 | q,r,Y,hr=>by
  obtain ⟨F,k1⟩:=h1 r hr;have key : ∀d,F<=d->B1 d r=B1 F r:=fun d h=>N F d h r k1
  cases e1:B1 F r with
  | error x=>
   refine ⟨F+1,?_⟩;rw [e1] at k1;simp only [Cs,key (F+1) Ab,e1,cJ];simpa using k1
  | ok a=>
   have s1:=V _ _ _ e1;cases e2:BL test a with
   | error x=>
    refine ⟨F+1,?_⟩;have:=Jc test a;rw [e2] at this;simp only [Cs,key (F+1) Ab,e1,e2,cJ];simpa using this
   | ok p=>
    obtain ⟨s2,s3,-⟩:=F6 e2;have s4:p.2.rem<r.rem:=by rw [s3];simp only;omega
    cases hp:p.1 with
    | true=>
     refine ⟨F+1,?_⟩;simp only [Cs,key (F+1) Ab,e1,e2,cJ,hp,if_true];simp
    | false=>
     obtain ⟨G,Z⟩:=h2 p.2 Ab;have L : ∀d,G<=d->B2 d p.2=B2 G p.2:=fun d h=>O G d h _ Z
     cases e3:B2 G p.2 with
     | error x=>
      refine ⟨max F G+1,?_⟩;rw [e3] at Z;simp only [Cs,key (max F G+1) Ab,e1,e2,cJ,hp,L (max F G+1) Ab,e3];simpa using Z
     | ok c=>
      have s5:=X _ _ _ e3;cases e4:Bp entry false c with
      | error x=>
       refine ⟨max F G+1,?_⟩;have:=Ih entry false c;rw [e4] at this;simp only [Cs,key (max F G+1) Ab,e1,e2,cJ,hp,L (max F G+1) Ab,e3,e4];simpa using this
      | ok g=>
       obtain ⟨s6,s7,-⟩:=Ey e4;have s8:g.rem<r.rem:=by rw [s7];simp only;omega
       match q,Y with
       | 0,Y=>omega
       | q+1,Y=>
        obtain ⟨M,k3⟩:=L8 N O V X m h1 h2 q g Ab Ab;refine ⟨max (max F G) M+1,?_⟩;simp only [Cs,key (max (max F G) M+1) Ab,e1,e2,cJ,hp,L (max (max F G) M+1) Ab,e3,e4];have:=LeX.loop (test:=test) (entry:=entry) (N M (max (max F G) M+1) Ab) (O M (max (max F G) M+1) Ab) M (max (max F G) M) Ab g k3;simp only [dK,if_false];rw [this];exact k3
def D8 {α:Type} {x:Except Int α} {K:Nat->α->Except Int Rn} (h:x≠.error (-1)) (F : ∀v,x = .ok v -> ∃d,K d v≠.error (-1)) : ∃d,x.bind (K d)≠.error (-1):=by
 cases x with
 | error e=>exact ⟨0,by simpa [cJ] using h⟩
 | ok v=>exact F v rfl
def R0 (ps:List PD) : ∀(m:Nat) (b:Bool) (t:Nd) (r:Rn),r.rem<=m -> ∃d,Au ps d b t r≠.error (-1):=by
 intro m
 induction m with
 | zero=>
  intro b t r h;refine ⟨1,?_⟩;obtain ⟨k,n,s,l⟩:=t;have e:A7 r = .error 18:=by unfold A7;rw [AG Ab]
  unfold Au;simp only [BL,Bp,e,cJ]
  repeat' split
  all_goals simp
 | succ m IH=>
  intro b t r h;obtain ⟨k,n,s,l⟩:=t;have V : ∀(b:Bool) (t:Nd) (r:Rn),r.rem<=m -> ∃d,AD (Au ps d) b t r≠.error (-1):=fun b t r N=>
   KX (F:=fun d=>Au ps d) (fun d d' b t h=>Kx ps b t h) (fun d b t=>Ig ps d b t) m b t (fun x _ r N=>IH b x r N) r N
  have O : ∀G,A7 r = .ok G->G.rem<=m:=fun G U=>by
   obtain ⟨-,rfl⟩:=C4 U;simp only;omega
  by_cases X:k=52
  . obtain ⟨d,L⟩:=D8 (K:=fun d (p:Bool×Rn)=>(AD (Au ps d) b (if p.1 then Bw l 1 else Bw l 2) p.2).bind (Bp (if b then Bw l 0 else Bw l (l.length-1)) p.1)) (Jc (if b then Bw l (l.length-1) else Bw l 0) r) (fun p Z=>by
     obtain ⟨-,M,-⟩:=F6 Z;obtain ⟨d,L⟩:=V b (if p.1 then Bw l 1 else Bw l 2) p.2 (by rw [M];simp only;omega);exact ⟨d,D7 L (fun v _=>Ih _ _ v)⟩)
    exact ⟨d+1,by simp only [Au,AG X];exact L⟩
  by_cases c2:k=53
  . obtain ⟨d,L⟩:=D8 (K:=fun d (p:Rn)=>Cs (AD (Au ps d) b (Bw l 1)) (AD (Au ps d) b (Bw l 2)) (if b then Bw l 0 else Bw l (l.length-1)) (if b then Bw l (l.length-1) else Bw l 0) d p) (Ih (if b then Bw l (l.length-1) else Bw l 0) true r) (fun p Z=>by
     obtain ⟨-,M,-⟩:=Ey Z;exact L8 (B1:=fun d=>AD (Au ps d) b (Bw l 1)) (B2:=fun d=>AD (Au ps d) b (Bw l 2)) (fun d d' h=>LeX.blockN h b _) (fun d d' h=>LeX.blockN h b _) (fun d=>Dec.block (Ig ps d) b _) (fun d=>Dec.block (Ig ps d) b _) m (fun r N=>V b _ r N) (fun r N=>V b _ r N) p.rem p (cH _) (by rw [M];simp only;omega))
    exact ⟨d+1,by simp only [Au,As X,AG c2];exact L⟩
  by_cases c3:k=54
  . obtain ⟨d,L⟩:=D8 (K:=fun d (r:Rn)=>(BH (if b then Bw l (l.length-1) else Bw l 0) r).bind fun v=>(CI (·.opens ⟨s,1,0⟩ v) r).bind fun r=>(AD (Au ps d) b (Bw l 1) r).bind fun r=>
     (A7 r).bind fun r=>(BH (if b then Bw l 0 else Bw l (l.length-1)) r).bind fun v=>CI (·.closes s v) r) (Ez r) (fun G U=>by
     have Y:=O G U;refine D8 (K:=fun d v=>(CI (·.opens ⟨s,1,0⟩ v) G).bind fun r=>(AD (Au ps d) b (Bw l 1) r).bind fun r=>
      (A7 r).bind fun r=>(BH (if b then Bw l 0 else Bw l (l.length-1)) r).bind fun v=>CI (·.closes s v) r) (Jb _ G) (fun v _=>?_)
     refine D8 (K:=fun d r=>(AD (Au ps d) b (Bw l 1) r).bind fun r=>(A7 r).bind fun r=>(BH (if b then Bw l 0 else Bw l (l.length-1)) r).bind fun v=>CI (·.closes s v) r) (Hh (fun st=>Qo st _ _) G) (fun r2 M=>?_);obtain ⟨-,rfl⟩:=Fl M;obtain ⟨d,L⟩:=V b (Bw l 1) ⟨(G.st.opens ⟨s,1,0⟩ v).2,G.rem⟩ Y;exact ⟨d,D7 L (fun v _=>D7 (Ez v) (fun u _=>D7 (Jb _ u) (fun x _=>Hh (fun st=>NN st _ _) u)))⟩)
    exact ⟨d+1,by simp only [Au,As X,As c2,AG c3];exact L⟩
  by_cases c4:k=55
  . obtain ⟨d,L⟩:=D8 (K:=fun d (r:Rn)=>(CI (·.opens ⟨s,3,0⟩ 0) r).bind fun r=>(AD (Au ps d) b (Bw l 0) r).bind fun r=>(A7 r).bind (CI (·.closes s 0))) (Ez r) (fun G U=>by
     have Y:=O G U;refine D8 (K:=fun d r=>(AD (Au ps d) b (Bw l 0) r).bind fun r=>(A7 r).bind (CI (·.closes s 0))) (Hh (fun st=>Qo st _ _) G) (fun r2 M=>?_);obtain ⟨-,rfl⟩:=Fl M;obtain ⟨d,L⟩:=V b (Bw l 0) ⟨(G.st.opens ⟨s,3,0⟩ 0).2,G.rem⟩ Y;exact ⟨d,D7 L (fun v _=>D7 (Ez v) (fun u _=>Hh (fun st=>NN st _ _) u))⟩)
    exact ⟨d+1,by simp only [Au,As X,As c2,As c3,AG c4];exact L⟩
  by_cases c5:k=50\/k=51
  . obtain ⟨d,L⟩:=D8 (K:=fun d (r:Rn)=>(CI (·.enters (ps.getD ((Cf ps s).getD 0) ⟨[],[],.mk 0 0 [] []⟩).params (l.map Nd.name)) r).bind fun r=>(AD (Au ps d) (b != decide (k=51)) (ps.getD ((Cf ps s).getD 0) ⟨[],[],.mk 0 0 [] []⟩).body r).bind fun r=>(A7 r).bind (CI (·.leaves))) (Ez r) (fun G U=>by
     have Y:=O G U;refine D8 (K:=fun d r=>(AD (Au ps d) (b != decide (k=51)) (ps.getD ((Cf ps s).getD 0) ⟨[],[],.mk 0 0 [] []⟩).body r).bind fun r=>(A7 r).bind (CI (·.leaves))) (Hh (fun st=>Un st _ _) G) (fun r2 M=>?_);obtain ⟨-,rfl⟩:=Fl M;obtain ⟨d,L⟩:=V (b != decide (k=51)) (ps.getD ((Cf ps s).getD 0) ⟨[],[],.mk 0 0 [] []⟩).body ⟨(G.st.enters (ps.getD ((Cf ps s).getD 0) ⟨[],[],.mk 0 0 [] []⟩).params (l.map Nd.name)).2,G.rem⟩ Y;exact ⟨d,D7 L (fun v _=>D7 (Ez v) (fun u _=>Hh Uo u))⟩)
    exact ⟨d+1,by simp only [Au,As X,As c2,As c3,As c4,AG c5];exact L⟩
  . refine ⟨1,?_⟩;simp only [Au,As X,As c2,As c3,As c4,As c5];exact D7 (Ez r) (fun u _=>Hh (fun st=>XQ st _ _ _ _) u)
def cellOk (x:Int×Int) (xs:List Int):Prop:=(x.1=1/\xs.length=1)\/(x.1=2/\(xs.length:Int)=x.2/\xs.length<=1000000)\/(x.1=3/\xs.length<=1000)
def cellOk.le {x:Int×Int} {xs:List Int} (h:cellOk x xs):xs.length<=1000000:=by
 rcases h with ⟨-,h⟩|⟨-,h⟩|⟨-,h⟩<;>omega
structure FrmWF (K:List (Int×Int)) (f:Frm):Prop where
 len:f.vars.length=f.cells.length
 loc:f.locals<=f.vars.length
 kind : ∀(i:Nat) (v:VD) (c:Nat),f.vars[i]? = some v->f.cells[i]? = some c->K[c]? = some (v.kind,v.len)
structure Stp.WF (K:List (Int×Int)) (m:Nat) (st:Stp):Prop where
 len:st.heap.length=K.length
 base:FrmWF K st.base
 calls : ∀f∈st.calls,FrmWF K f
 cell : ∀(c:Nat) (x:Int×Int),K[c]? = some x->cellOk x (st.items c)
 nc:st.calls.length<=100
 vb : ∀f∈st.base::st.calls,f.vars.length<=m
def Ee {α:Type} {l:List α} {x:α} (h:x∈l.dropLast):x∈l:=(List.dropLast_sublist l).subset h
def IC (st:Stp):st.cur∈st.base::st.calls:=by
 unfold Stp.cur;rcases List.eq_nil_or_concat st.calls with h|⟨l,f,h⟩<;>rw [h]<;>simp
def FrmWF.lt {K:List (Int×Int)} {f:Frm} (h:FrmWF K f) {c:Nat} (L:c∈f.cells):c<K.length:=by
 obtain ⟨i,G,rfl⟩:=List.getElem_of_mem L;have:=h.kind i _ _ (bT (by rw [h.len];exact G)) (bT G);rcases cO f.cells[i] K.length with F|F
 . exact F
 . rw [cI F] at this;cases this
section
variable {K:List (Int×Int)} {m:Nat} {st:Stp}
def Stp.WF.all' (h:st.WF K m) : ∀f∈st.base::st.calls,FrmWF K f:=fun f F=>by
 rcases dQ.1 F with rfl|F
 . exact h.base
 . exact h.calls f F
def Stp.WF.cur (h:st.WF K m):FrmWF K st.cur:=h.all' _ (IC st)
def Stp.WF.curm (h:st.WF K m):st.cur.vars.length<=m:=h.vb _ (IC st)
def Ef {s:lB} : ∀ {l:List VD} {i:Nat},BR s l=some i->i<l.length
 | [],i,h=>by cases h
 | v::r,i,h=>by
  unfold BR at h;split at h
  . rename_i j F;cases h;have:=Ef F;simp only [cF];omega
  . split at h
    . cases h;simp
    . cases h
def Jd (s:lB) : ∀l:List VD,Ep l s=(BR s l).bind (l[·]?)
 | []=>rfl
 | v::r=>by
  have F:=Jd s r;unfold Ep at F ⊢;unfold BR;rw [List.reverse_cons,List.find?_append,F];cases h:BR s r with
  | none=>by_cases G:v.name=s<;>simp [G]
  | some i=>simp [bT (Ef h)]
def Dx {s:lB} : ∀ {l:List VD} {i:Nat},BR s l=some i -> ∃v,l[i]? = some v/\v.name=s
 | [],i,h=>by cases h
 | v::r,i,h=>by
  unfold BR at h;split at h
  . rename_i j F;cases h;obtain ⟨x,G,L⟩:=Dx F;exact ⟨x,by simpa using G,L⟩
  . split at h
    . rename_i M;cases h;exact ⟨v,rfl,M⟩
    . cases h
def R1 {v:List VD} {s:lB} {k:Int} (h:EC v s k=0) : ∃i x,BR s v=some i/\v[i]? = some x/\x.kind=k:=by
 unfold EC at h;rw [Jd] at h;cases e:BR s v with
 | none=>rw [e] at h;simp at h
 | some i=>
  rw [e] at h;obtain ⟨x,F,-⟩:=Dx e;simp only [Option.bind_some,F] at h;refine ⟨i,x,rfl,F,?_⟩;split at h
  . assumption
  . cases h
def Stp.WF.use (h:st.WF K m) {s:lB} {k:Int} (V:EC st.cur.vars s k=0) : ∃i c x,BR s st.cur.vars=some i/\st.cur.cells[i]? = some c/\st.cellD s=c/\st.look s=some (st.items c)/\c<st.heap.length/\K[c]? = some x/\x.1=k/\cellOk x (st.items c):=by
 obtain ⟨i,x,G,M,X⟩:=R1 V;have Y:=Ef G;have L:=h.cur;have F:i<st.cur.cells.length:=by rw [<-L.len];exact Y
 have N:=bT F;have O:=L.kind i x _ M N;have U:st.cur.cell s=some st.cur.cells[i]:=by unfold Frm.cell;rw [G];simp [M]
 refine ⟨i,st.cur.cells[i],(x.kind,x.len),G,N,?_,?_,?_,O,X,h.cell _ _ O⟩
 . unfold Stp.cellD;rw [U];rfl
 . unfold Stp.look;rw [U];rfl
 . rw [h.len];exact L.lt (cL F)
def Stp.WF.look_le (h:st.WF K m) {s:lB} {xs:List Int} (F:st.look s=some xs):xs.length<=1000000:=by
 unfold Stp.look at F;cases e:st.cur.cell s with
 | none=>rw [e] at F;cases F
 | some c=>
  rw [e] at F;cases F;unfold Frm.cell at e;cases e1:BR s st.cur.vars with
  | none=>rw [e1] at e;cases e
  | some i=>
   rw [e1] at e;simp only [Option.bind_some] at e;obtain ⟨x,G,-⟩:=Dx e1;exact (h.cell _ _ (h.cur.kind i x c G e)).le
def Stp.WF.same {st':Stp} (h:st.WF K m) (L:st'.heap.length=st.heap.length) (G:st'.base=st.base) (F:st'.calls=st.calls) (M : ∀c x,K[c]? = some x->cellOk x (st'.items c)):st'.WF K m:=
 ⟨L.trans h.len,G▸h.base,F▸h.calls,M,F▸h.nc,by rw [G,F];exact h.vb⟩
def cellOk.len {x:Int×Int} {xs ys:List Int} (h:cellOk x xs) (e:ys.length=xs.length):cellOk x ys:=by unfold cellOk at h ⊢;rw [e];exact h
def CX (st:Stp) (c:Nat) (xs:List Int) (h:Nat):(st.all c xs).items h=if h=c/\c<st.heap.length then xs else st.items h:=by
 unfold Stp.all fZ;simp only [cB];by_cases F:h=c
 . subst F;by_cases G:h<st.heap.length
   . simp [G]
   . simp [G]
 . simp [F,List.getElem?_set_ne (Ne.symm F)]
def Gm (st:Stp) (c i:Nat) (v:Int) (F:Nat):((st.put c i v).items F).length=(st.items F).length:=by
 unfold Stp.put;rw [CX];split
 . rename_i h;rw [h.1];simp
 . rfl
def Stp.WF.put (h:st.WF K m) (c i:Nat) (v:Int):(st.put c i v).WF K m:=
 h.same (by simp [Stp.put,Stp.all]) rfl rfl (fun F x G=>(h.cell F x G).len (Gm st c i v F))
def Stp.WF.tapes (h:st.WF K m) (a b:List Int):({ st with tin:=a,tout:=b }:Stp).WF K m:=h.same rfl rfl rfl h.cell
def Stp.WF.all (h:st.WF K m) {c:Nat} {x:Int×Int} {xs:List Int} (G:K[c]? = some x) (L:cellOk x xs):(st.all c xs).WF K m:=
 h.same (by simp [Stp.all]) rfl rfl (fun M N F=>by
  rw [CX];split
  . rename_i e;rw [e.1,G] at F;cases F;exact L
  . exact h.cell M N F)
def Stp.WF.transfer (h:st.WF K m) (k:Int) (c i:Nat):(st.transfer k c i).2.WF K m:=by
 have F:=fun v=>h.put c i v
 unfold Stp.transfer
 repeat' split
 all_goals first|exact h|exact (F _).tapes _ _
def Stp.WF.move (h:st.WF K m) {d:Nat} {x:Int×Int} (F:K[d]? = some x) (G:x.1=3) (k:Int) (c i:Nat):(st.move k c i d).2.WF K m:=by
 have M:=h.cell d x F;have N:(st.items d).length<=1000:=by rcases M with ⟨L,-⟩|⟨L,-⟩|⟨-,L⟩<;>omega
 unfold Stp.move;split
 . split
   . exact h
   . exact (h.all F (bX (bX ⟨G,by simp;omega⟩))).put _ _ _
 . split
   . exact h
   . split
     . exact h
     . exact (h.put _ _ _).all F (bX (bX ⟨G,by simp;omega⟩))
def Stp.WF.exec (h:st.WF K m) {k:Int} {s:lB} (l:List Nd) (F:(k=44\/k=45)->EC st.cur.vars s 3=0):(st.exec k s l).2.WF K m:=by
 unfold Stp.exec;simp only;generalize (if k=43 then Bi st.look (l.getD 1 (.mk 0 0 [] [])) else if 40<=k/\k<=42 then AT st.look (l.getD 1 (.mk 0 0 [] [])) else (0,0))=r;split
 . exact h
 split
 . exact h
 split
 . exact h
 split
 . exact h.put _ _ _
 split
 . split
   . exact h
   . exact (h.put _ _ _).put _ _ _
 split
 . rename_i G;obtain ⟨i,c,x,-,-,L,-,-,M,N,-⟩:=h.use (F G);rw [L];exact h.move M N _ _ _
 . exact h.transfer _ _ _
def JQ {v:List VD} {k n:Int} {s:lB} {l:List Nd} (h:(Nd.mk k n s l).bad v=0):(CS k≠0->EC v s (CS k)=0)/\Ft v l=0:=by
 unfold Nd.bad at h;by_cases F:CS k≠0/\EC v s (CS k)≠0
 . rw [AG F] at h;exact absurd h F.2
 . rw [As F] at h;exact ⟨fun L=>by
    by_cases G:EC v s (CS k)=0
    . exact G
    . exact absurd ⟨L,G⟩ F,h⟩
def Cu {v:List VD} {t:Nd} {l:List Nd} (h:Ft v (t::l)=0):t.bad v=0/\Ft v l=0:=by
 unfold Ft at h;by_cases F:t.bad v≠0
 . rw [AG F] at h;exact absurd h F
 . rw [As F] at h;exact ⟨Ab,h⟩
def Stp.WF.run1 (h:st.WF K m) (k n:Int) (s:lB) (l:List Nd):(st.run1 k n s l).2.WF K m:=by
 unfold Stp.run1;split
 . exact h
 split
 . exact h
 . rename_i F;have:=(JQ (n:=n) (Decidable.not_not.1 F)).1;refine h.exec l (fun G=>?_);have e:CS k=3:=by unfold CS;rcases G with rfl|rfl<;>decide
   rw [e] at this;exact this AY
def L9 {st:Stp} {f g:Frm} (h:g∈(st.setCur f).base::(st.setCur f).calls):g=f\/g∈st.base::st.calls:=by
 unfold fU at h;split at h
 . rcases dQ.1 h with h|h
   . exact bW h
   . exact bX (List.mem_cons_of_mem _ h)
 . rcases dQ.1 h with h|h
   . exact bX (by simp only at h;rw [h];simp)
   . rcases List.mem_append.1 h with h|h
     . exact bX (List.mem_cons_of_mem _ (Ee h))
     . exact bW (by simpa using h)
def Stp.WF.setCur (h:st.WF K m) {f:Frm} (N:FrmWF K f) {m':Nat} (O:f.vars.length<=m') (G:m<=m'):(st.setCur f).WF K m':=by
 have key : ∀g∈(st.setCur f).base::(st.setCur f).calls,FrmWF K g/\g.vars.length<=m':=fun g F=>by
  rcases L9 F with rfl|F
  . exact ⟨N,O⟩
  . exact ⟨h.all' g F,dV (h.vb g F) G⟩
 have L:(st.setCur f).calls.length=st.calls.length:=by
  unfold fU;split
  . rfl
  . rename_i U;have:=List.length_pos_iff.2 U;simp only [cP,List.length_dropLast,cF,dD];omega
 have M:(st.setCur f).heap=st.heap:=by unfold fU;split<;>rfl
 refine ⟨by rw [M];exact h.len,(key _ AR).1,fun g F=>(key g (by simp [F])).1,fun c x V=>?_,by rw [L];exact h.nc,fun g F=>(key g F).2⟩;have:(st.setCur f).items c=st.items c:=by unfold fZ;rw [M]
 rw [this];exact h.cell c x V
def FrmWF.more {f:Frm} (h:FrmWF K f) (x:Int×Int):FrmWF (K++[x]) f:=⟨h.len,h.loc,fun i v c G F=>by
 have:=h.kind i v c G F;have L:c<K.length:=h.lt (dL F);rw [cK L];exact this⟩
def Stp.WF.more (h:st.WF K m) {x:Int×Int} {xs:List Int} (L:cellOk x xs):({ st with heap:=st.heap++[xs] }:Stp).WF (K++[x]) m:=by
 refine ⟨by simp [h.len],h.base.more x,fun f M=>(h.calls f M).more x,fun c y F=>?_,h.nc,h.vb⟩;unfold fZ;simp only [cB];rcases Nat.lt_trichotomy c K.length with G|G|G
 . rw [cK G] at F;rw [cK (by rw [h.len];exact G)];have:=h.cell c y F;unfold fZ at this;simpa only [cB] using this
 . subst G;rw [cW (cH _)] at F;rw [cW (by rw [h.len];exact cH _)];simp only [Nat.sub_self,dF,cE] at F;subst F;rw [h.len];simpa using L
 . rw [cI (by simp;omega)] at F;cases F
def Stp.WF.opens (h:st.WF K m) {v:VD} (L:v.kind=1\/v.kind=3) (x:Int) : ∃U,(st.opens v x).2.WF U (m+1):=by
 unfold Stp.opens;split
 . exact ⟨K,⟨h.len,h.base,h.calls,h.cell,h.nc,fun f O=>Nat.le_succ_of_le (h.vb f O)⟩⟩
 . have G:=h.cur;have V:cellOk (v.kind,v.len) (if v.kind=1 then [x] else []):=by
    rcases L with L|L
    . rw [AG L];exact bW ⟨L,rfl⟩
    . rw [As Ab];exact bX (bX ⟨L,AR⟩)
   have X:=h.more V;have O:FrmWF (K++[(v.kind,v.len)]) ⟨st.cur.vars++[v],st.cur.cells++[st.heap.length],st.cur.locals+1⟩:=by
    refine ⟨by simp [G.len],by have:=G.loc;simp;omega,fun i u c F M=>?_⟩;simp only at F M;rcases Nat.lt_trichotomy i st.cur.vars.length with N|N|N
    . rw [cK N] at F;rw [cK (by rw [<-G.len];exact N)] at M;exact (G.more _).kind i u c F M
    . subst N;rw [cW (cH _)] at F;rw [cW (by rw [G.len];exact cH _),G.len] at M;simp only [Nat.sub_self,dF,cE] at F M;subst F M;rw [h.len,cW (cH _)];simp
    . rw [cI (by simp;omega)] at F;cases F
   have F:=X.setCur O (m':=m+1) (by have:=h.curm;simp;omega) Ab;refine ⟨K++[(v.kind,v.len)],?_⟩;have e:({ st.setCur ⟨st.cur.vars++[v],st.cur.cells++[st.heap.length],st.cur.locals+1⟩ with heap:=st.heap++[if v.kind=1 then [x] else []] }:Stp)=({ st with heap:=st.heap++[if v.kind=1 then [x] else []] }:Stp).setCur ⟨st.cur.vars++[v],st.cur.cells++[st.heap.length],st.cur.locals+1⟩:=by
    generalize (if v.kind=1 then [x] else [])=q;unfold fU;by_cases G:st.calls=[]<;>simp [G]
   rw [e];exact F
def Stp.WF.closes (h:st.WF K m) (s:lB) (x:Int):(st.closes s x).2.WF K m:=by
 unfold Stp.closes;simp only;split
 . exact h
 split
 . exact h
 . rename_i M N;have L:=h.cur;refine h.setCur ⟨by simp [L.len],by have:=L.loc;simp;omega,fun i v c F G=>?_⟩ (by have:=h.curm;simp;omega) (cH _);simp only [List.getElem?_dropLast] at F G;split at F
   . split at G
     . exact L.kind i v c F G
     . cases G
   . cases F
def Qq {f:Frm} : ∀(ps:List VD) (F:List lB),ps.length=F.length->(BS f ps F).1=0->(BS f ps F).2.length=ps.length /\ ∀(i:Nat) (v:VD) (c:Nat),ps[i]? = some v->(BS f ps F).2[i]? = some c -> ∃(j:Nat) (u:VD),f.vars[j]? = some u/\f.cells.getD j 0=c/\u.kind=v.kind/\u.len=v.len
 | [],_,_,_=>⟨by simp [BS],fun i v c h=>by simp at h⟩
 | _::_,[],h,_=>by cases h
 | v::r,s::q,O,h=>by
  unfold BS at h ⊢;cases e:BR s f.vars with
  | none=>rw [e] at h;cases h
  | some j=>
   rw [e] at h;simp only at h ⊢;by_cases G:(f.vars.getD j ⟨[],0,0⟩).kind≠v.kind\/(f.vars.getD j ⟨[],0,0⟩).len≠v.len
   . rw [AG G] at h;cases h
   . rw [As G] at h ⊢;obtain ⟨k1,U⟩:=Qq r q (by simpa using O) h;obtain ⟨u,N,-⟩:=Dx e;refine ⟨by simp [k1],fun i w c L M=>?_⟩;cases i with
     | zero=>
      simp only [dF,cE] at L M;subst L M;have V:f.vars.getD j ⟨[],0,0⟩=u:=by rw [cB,N];rfl
      rw [V] at G;refine ⟨j,u,N,rfl,?_,?_⟩<;>omega
     | succ i=>exact U i w c (by simpa using L) (by simpa using M)
def Stp.WF.enters (h:st.WF K m) {ps:List VD} (X:ps.length<=m) (M:List lB):(st.enters ps M).2.WF K m:=by
 unfold gJ;split
 . exact h
 split
 . exact h
 split
 . exact h
 . rename_i h1 h2 h3;obtain ⟨k1,Y⟩:=Qq (f:=st.cur) ps M Ab Ab;have V:=h.cur;have Z:FrmWF K ⟨ps,(BS st.cur ps M).2,0⟩:=⟨k1.symm,cQ _,fun i v c F L=>by
    obtain ⟨j,u,N,h7,h8,h9⟩:=Y i v c F L;have hj:j<st.cur.cells.length:=by
     rw [<-V.len];rcases cO j st.cur.vars.length with O|O
     . exact O
     . rw [cI O] at N;cases N
    have U:st.cur.cells[j]? = some c:=by rw [<-h7,cB,bT hj];rfl
    rw [<-h8,<-h9];exact V.kind j u c N U⟩
   refine ⟨h.len,h.base,fun f G=>?_,h.cell,by simp;omega,fun f G=>?_⟩
   . rcases List.mem_append.1 G with F|F
     . exact h.calls f F
     . rw [List.mem_singleton.1 F];exact Z
   . rcases dQ.1 G with F|F
     . exact h.vb f (by simp only at F;rw [F];simp)
     . rcases List.mem_append.1 F with L|L
       . exact h.vb f (by simp [L])
       . rw [List.mem_singleton.1 L];exact X
def Stp.WF.leaves (h:st.WF K m):(st.leaves).2.WF K m:=by
 unfold gG;split
 . exact h
 . exact ⟨h.len,h.base,fun f G=>h.calls f (Ee G),h.cell,by have:=h.nc;simp;omega,fun f G=>h.vb f (by
    rcases dQ.1 G with F|F
    . simp only at F;rw [F];simp
    . simp only at F;simp [Ee F])⟩
end
def Ma {α β:Type} {f:α->List β} {k:Nat} (F : ∀x,(f x).length=k) : ∀(l:List α) (i:Nat) (x:α),l[i]? = some x->((l.flatMap f).drop (i*k)).take k=f x
 | [],i,x,h=>by simp at h
 | y::r,0,x,h=>by
  simp only [dF,cE] at h;subst h;rw [List.flatMap_cons,Nat.zero_mul,List.drop_zero,List.take_append_of_le_length (by rw [F];exact cH _),List.take_of_length_le (by rw [F];exact cH _)]
 | y::r,i+1,x,h=>by
  rw [List.flatMap_cons,show (i+1)*k=(f y).length+i*k by rw [F,Nat.add_mul];omega,<-List.drop_drop,List.drop_left];exact Ma F r i x (by simpa using h)
def Hj {w:wD} {e:TypeId} {v:Value} {l:List VD} {S:nP} (h:Own w 0 e 3 v l.length (l.flatMap VD.cells)) (G : ∀k,v.ownBlock=some k->S k) : ∃a c,v = .slice a l.length c/\VDs S w l a:=by
 rcases h.row with ⟨rfl,F,-⟩|⟨g,cap,rfl,-,L,M⟩
 . exact ⟨none,0,by rw [F],bW (List.length_eq_zero_iff.1 F)⟩
 . refine ⟨_,cap,rfl,bX ⟨g,0,rfl,G g L,fun i x N=>?_⟩⟩;have:=M.sub (i*3) 3;rw [Ma (f:=VD.cells) (k:=3) (fun _=>rfl) l i x N] at this;exact this
def Ptrs (κ:Nat->Nat) (w:wD) (l:List Nat) (a:oA):Prop:=l=[] \/ ∃g,a=some ⟨g,0,none⟩/\Row w ⟨g,0,none⟩ (l.map (Ki κ))
def Mb {w:wD} {e:TypeId} {v:Value} {l:List Nat} {κ:Nat->Nat} (h:Own w 0 e 1 v l.length (l.map (Ki κ))) : ∃a c,v = .slice a l.length c/\Ptrs κ w l a:=by
 rcases h.row with ⟨rfl,F,-⟩|⟨g,cap,rfl,-,L,G⟩
 . exact ⟨none,0,by rw [F],bW (List.length_eq_zero_iff.1 F)⟩
 . exact ⟨_,cap,rfl,bX ⟨g,rfl,G⟩⟩
def Ptrs.get {κ:Nat->Nat} {w:wD} {l:List Nat} {a:oA} (h:Ptrs κ w l a) {i c:Nat} (F:l[i]? = some c) : ∃g,a=some ⟨g,0,none⟩/\Row w ⟨g,0+i*1,none⟩ [Ki κ c]:=by
 rcases h with rfl|⟨g,rfl,M⟩
 . simp at F
 . refine ⟨g,rfl,?_⟩;have:=M.sub (i*1) 1;rw [Nat.mul_one] at this ⊢;have G:i<l.length:=by
    rcases cO i l.length with L|L
    . exact L
    . rw [cI L] at F;cases F
   have e:((l.map (Ki κ)).drop i).take 1=[Ki κ c]:=by
    rw [dH (by simpa using G)];have:l[i]=c:=by rw [bT G] at F;exact cD F
    simp [this]
   rw [e] at this;exact this
def C8 (l:List VD) (s:lB):Int:=match BR s l with
 | some i=>(i:Int)
 | none=> -1
def Je (s:lB) (v:VD) : ∀l:List VD,BR s (l++[v])=if v.name=s then some l.length else BR s l
 | []=>by simp only [List.nil_append,BR,dD]
 | u::r=>by
  rw [List.cons_append];unfold BR;rw [Je s v r];by_cases h:v.name=s
  . simp [h]
  . simp [h]
def Qr {l:List VD} {j:Nat} (F:j<l.length) (s:lB):C8 (l.take (j+1)) s=if l[j].name=s then (j:Int) else C8 (l.take j) s:=by
 have e:l.take (j+1)=l.take j++[l[j]]:=by rw [List.take_add_one,bT F];rfl
 unfold C8;rw [e,Je];by_cases h:l[j].name=s
 . rw [AG h,AG h];simp;omega
 . rw [As h,As h]
def Mc (l:List VD) (hl:l.length<=1000000) (s:lB) (S:nP) (a:oA) (c:Nat) (vc V:Value) (M N:Nat) (w:wD) (Y:Row w ⟨M,N,none⟩ [.slice a l.length c,vc,V]) (F:VDs S w l a) :
 Calls prog 154 #[.pointer (some ⟨M,N,none⟩),str s] w fun e w'=>e = .returned (.int .i64 (C8 l s))/\Ext w w':=by
 have X:=eU w;have F:=F.ltV;refine Ac func154 ntmps154 rfl rfl ?_;refine eK ?_;refine C1 (Bq rfl rfl (dA _ Ab)) (C1 Pa (cT ?_));refine Av ?_;refine A1 (ι:=Nat) (fun j=>[(0,.pointer (some ⟨M,N,none⟩)),(1,str s),(5,.int .i64 ((j:Int)-1))])
  (fun j w'=>j<=l.length/\VDs (· < w.heap.size) w' l a/\Row w' ⟨M,N,none⟩ [.slice a l.length c,vc,V]/\Ext w w'/\C8 l s=C8 (l.take j) s)
  (fun j=>j) l.length sB ⟨cH _,F,Y,X,by rw [dB]⟩ ?_
 clear F Y X;rintro j w1 ⟨hj,F,hb,X,G⟩;cases j with
 | zero=>
  have e0:C8 l s = -1:=by rw [G];rfl
  rw [e0];refine eK ?_;refine xR ?_;exact ⟨rfl,X⟩
 | succ j=>
  have L:j<l.length:=by omega
  obtain ⟨kb,ko,rfl,kS,h⟩:=F.get (by intro e;subst e;simp at L);have Z:=h j l[j] (bT L);rw [Qr L s] at G;clear h;generalize l[j]=v at *;have O:(((j+1:Nat):Int)-1)=(j:Int):=by omega
  obtain ⟨vn,vk,vl⟩:=v;replace Z:Row w1 ⟨kb,ko+j*3,none⟩ [str vn,.int .u8 vk,.int .i64 vl]:=Z;dsimp only at G;rw [O]
  focus
   refine eK ?_;refine Ay rfl (fun U=>?_) (fun U=>?_);refine eK ?_;refine xR ?_;rotate_left;refine eK ?_;refine C1 (Bq rfl rfl (dA _ Ab)) (C1 Pa (Ak ?_));rotate_left
  . rw [AG Ae] at G;rw [G];exact ⟨rfl,X⟩
  . rw [As Ae] at G;exact AI j sB ⟨Ab,F,hb,X,G⟩ Ab
def E5 (F G n sb:Nat) (L:n<=1000) (w:wD) (h:CurP w sb F G n) :
 Calls prog 153 #[.pointer (some ⟨sb,0,none⟩)] w fun e w'=>e = .returned (.pointer (some ⟨F,G,none⟩))/\Ext w w':=by
 have X:=eU w;obtain ⟨x,y,z,a,c,M,N,⟨rfl,rfl,rfl⟩|⟨O,rfl,rfl⟩⟩:=h
 . refine Ac func153 ntmps153 rfl rfl ?_;refine eK ?_;refine xR ?_;exact ⟨rfl,X⟩
 . refine Ac func153 ntmps153 rfl rfl ?_;refine eK ?_;refine C1 (Bq rfl rfl (dA _ Ab)) ?_;refine eK ?_;refine xR ?_;refine ⟨?_,X⟩;rw [show (0+((n:Int)-1).toNat*3)=(n-1)*3 by omega]
def XR (k:Int) (w:wD):Calls prog 168 #[.int .u8 k] w fun e w'=>e = .returned (.int .u8 (CS k))/\Ext w w':=by
 have X:=eU w;refine Ac func168 ntmps168 rfl rfl ?_
 focus
  refine eK ?_;refine Ay rfl (fun h=>?_) (fun h=>?_);refine eK ?_;refine xR ?_;rotate_left;refine eK ?_;refine Ay rfl (fun c2=>?_) (fun c2=>?_);refine eK ?_;refine xR ?_;rotate_left;refine eK ?_;refine Ay rfl (fun c3=>?_) (fun c3=>?_);refine eK ?_;refine xR ?_;rotate_left;refine eK ?_;refine Ay rfl (fun c4=>?_) (fun c4=>?_);refine eK ?_;refine xR ?_;rotate_left;refine eK ?_;refine Ay rfl (fun c5=>?_) (fun c5=>?_);refine eK ?_;refine xR ?_;rotate_left;refine eK ?_;refine Ay rfl (fun F=>?_) (fun F=>?_);refine eK ?_;refine xR ?_;rotate_left;refine eK ?_;refine xR ?_;rotate_left
 all_goals (refine ⟨?_,X⟩;unfold CS)
 . rw [AG Ab]
 . rw [As Ab,AG Ab]
 . rw [As Ab,As Ab,AG Ab]
 . rw [As Ab,As Ab,AG Ab]
 . rw [As Ab,As Ab,AG Ab]
 . rw [As Ab,As Ab,AG Ab]
 . rw [As Ab,As Ab,As Ab]
def DY {P:Program} {n:Nat} {l:Sl} {w:wD} {Q:Exit->Act->wD->Prop} {x y:Code} {ι:Type} (L:ι->Sl) (I:ι->wD->Prop) (h:CW P n x (Exit.then (fun a w=> ∃i,Env n (L i) a/\I i w) Q) l w) (k : ∀i w,I i w->CW P n y Q (L i) w):CW P n x (Exit.then (Code.wp P y Q) Q) l w:=by
 unfold CW at h k ⊢;intro a F;refine Code.wp_mono (fun e a w q=>?_) (h a F);cases e with
 | normal=>
  obtain ⟨i,G,M⟩:=q;exact k i w M a G
 | _=>exact q
section
variable {ρ:Nat->Rl} {κ:Nat->Nat} {K:List (Int×Int)} {m sb:Nat} {st:Stp} {w:wD}
def E6 {st:Stp} {c:Nat} (h:c<st.heap.length):st.heap[c]? = some (st.items c):=by
 unfold fZ;rw [cB,bT h];rfl
def Up {s:lB} (h:BR s st.cur.vars=none):st.look s=none:=by unfold Stp.look Frm.cell;rw [h];rfl
def Uq {s:lB} {i c:Nat} (h:BR s st.cur.vars=some i) (F:st.cur.cells[i]? = some c):st.look s=some (st.items c)/\st.cellD s=c:=by
 have e:st.cur.cell s=some c:=by unfold Frm.cell;rw [h];simpa using F
 exact ⟨by unfold Stp.look;rw [e];rfl,by unfold Stp.cellD;rw [e];rfl⟩
def StoreAt.at (h:StoreAt ρ κ w sb st) (M:st.WF K m) {s:lB} {i:Nat} (O:BR s st.cur.vars=some i) : ∃c G L,st.cur.cells[i]? = some c/\c<st.heap.length/\st.look s=some (st.items c)/\st.cellD s=c/\Blk w (κ c) [.slice G (st.items c).length L]/\OwnR ρ (.items c) w (.slice G (st.items c).length L) (st.items c)/\ρ (κ c) = .cell c:=by
 have N:=Ef O;have F:i<st.cur.cells.length:=by rw [<-M.cur.len];exact N
 have U:=bT F;obtain ⟨Y,Z⟩:=Uq O U;have V:st.cur.cells[i]<st.heap.length:=by rw [M.len];exact M.cur.lt (cL F)
 obtain ⟨h1,v,h2,X⟩:=h.cells _ _ (E6 V);obtain ⟨G,L,rfl⟩:=X.1.shape;exact ⟨_,G,L,U,V,Y,Z,h2,X,h1⟩
def Qs (V:st.WF K m) (hm:m<=1000000) (s:lB) (w:wD) (h:StoreAt ρ κ w sb st) :
 Calls prog 170 #[.pointer (some ⟨sb,0,none⟩),str s] w (LookR ((st.look s).getD []) (st.look s).isSome w):=by
 have X:=eU w;have ae:=V.curm;have af:=V.nc;obtain ⟨fb,fo,pre,post,T,vv,vc,G,-,M,Z,-⟩:=h.open;obtain ⟨av,cv,rfl,L⟩:=Hj (S:=fun _=>True) Z.v.1 (fun _ _=>trivial);obtain ⟨ac,cc,rfl,U⟩:=Mb Z.c.1;have F:=M.blk;have HC:=bU (fun w1 h=>E5 fb fo st.calls.length sb Ab w1 h);cases hl:BR s st.cur.vars with
 | none=>
  have O:=fun w1 h1 h2=>Mc st.cur.vars Ab s (fun _=>True) av cv (.slice ac st.cur.cells.length cc) (.int .i64 st.cur.locals) fb fo w1 h1 h2
  rw [show C8 st.cur.vars s = -1 by unfold C8;rw [hl]] at O;have O:=bU O;rw [Up hl];clear h Z M U V;generalize st.cur.cells.length=n2 at *;generalize st.cur.vars=vs at *;generalize st.calls.length=nc at *;refine Ac func170 ntmps170 rfl rfl ?_;refine eK ?_;refine cC rfl (HC.out _ Ae) ?_;rintro _ w2 ⟨⟨⟩,x1⟩;revert X L F G;refine eY x1 ?_;intro z3 X L F G;refine eK ?_;refine cC rfl (O.out _ Ae Ae) ?_;rintro _ w5 ⟨⟨⟩,x4⟩;revert X L F G;refine eY x4 ?_;intro z6 X L F G;refine eK ?_;refine xT ?_;exact ⟨none,0,rfl,bW rfl,AR,X⟩
 | some i=>
  have O:=fun w1 h1 h2=>Mc st.cur.vars Ab s (fun _=>True) av cv (.slice ac st.cur.cells.length cc) (.int .i64 st.cur.locals) fb fo w1 h1 h2
  rw [show C8 st.cur.vars s=(i:Int) by unfold C8;rw [hl]] at O;have O:=bU O;obtain ⟨c,a',c',e1,e2,e3,e4,hb,ho,-⟩:=h.at V hl;have aa:=V.look_le e3;obtain ⟨g,rfl,r1⟩:=U.get e1;have ag:i<st.cur.cells.length:=by
   rcases cO i st.cur.cells.length with h'|h'
   . exact h'
   . rw [cI h'] at e1;cases e1
  have Y:Row w ⟨g,0+(i:Int).toNat*1,none⟩ [Ki κ c]:=r1;have N:=ho.1.at;rw [e3];clear h Z M U V r1 ho e1 e2 e3 e4;unfold Ki at Y;generalize κ c=cb at *;generalize st.items c=xs at *;generalize st.cur.cells.length=n2 at *;generalize st.cur.vars=vs at *;generalize st.calls.length=nc at *;refine Ac func170 ntmps170 rfl rfl ?_;refine eK ?_;refine cC rfl (HC.out _ Ae) ?_;rintro _ ah ⟨⟨⟩,ab⟩;revert X Y N hb L F G;refine eY ab ?_;intro ai X Y N hb L F G;refine eK ?_;refine cC rfl (O.out _ Ae Ae) ?_;rintro _ aj ⟨⟨⟩,ad⟩;revert X Y N hb L F G;refine eY ad ?_;intro ak X Y N hb L F G;refine eK ?_;refine C1 (Pw F) ?_;refine eK ?_;refine xT ?_;exact ⟨_,_,rfl,N,aa,X⟩
def Zl (G:st.WF K m) (N:m<=1000000) (s:lB) (w:wD) (h:StoreAt ρ κ w sb st) :
 Calls prog 166 #[.pointer (some ⟨sb,0,none⟩),str s] w (LookR ((st.look s).getD []) (st.look s).isSome w):=by
 have X:=eU w;have O:=bU (Qs G N s w h);clear h G;generalize (st.look s).isSome=q at *;generalize (st.look s).getD []=xs at *;refine Ac func166 ntmps166 rfl rfl ?_;refine eK ?_;refine C1 (A2 Ad rfl rfl) ?_;refine eK ?_;refine eQ rfl (O.out) ?_;rintro _ w6 ⟨a1,⟨c2,⟨⟨⟩,⟨L,⟨h4,M⟩⟩⟩⟩⟩;have z7:=M.size;have X:=X.ext M;refine eK ?_;refine eQ rfl (FY xs Ab _ _ _ Ae) ?_;rintro _ U ⟨a8,⟨c9,⟨⟨⟩,⟨V,⟨Y,F⟩⟩⟩⟩⟩;revert L X;refine eY F ?_;intro Z L X;refine eK ?_;refine xT ?_;exact ⟨_,_,rfl,OwnI.at Ae,Ab,X⟩
def Md (Y:st.WF K m) (hm:m<=1000000) (s:lB) {i:Nat} (hl:BR s st.cur.vars=some i) (w:wD) (h:StoreAt ρ κ w sb st) :
 Calls prog 171 #[.pointer (some ⟨sb,0,none⟩),str s] w fun e w'=>e = .returned (.pointer (some ⟨κ (st.cellD s),0,none⟩))/\Ext w w':=by
 have X:=eU w;have ae:=Y.curm;have af:=Y.nc;obtain ⟨fb,fo,pre,post,T,vv,vc,G,-,O,hf,-⟩:=h.open;obtain ⟨av,cv,rfl,L⟩:=Hj (S:=fun _=>True) hf.v.1 (fun _ _=>trivial);obtain ⟨ac,cc,rfl,V⟩:=Mb hf.c.1;have F:=O.blk;have HC:=bU (fun w1 h=>E5 fb fo st.calls.length sb Ab w1 h);have Z:=fun w1 h1 h2=>Mc st.cur.vars Ab s (fun _=>True) av cv (.slice ac st.cur.cells.length cc) (.int .i64 st.cur.locals) fb fo w1 h1 h2
 rw [show C8 st.cur.vars s=(i:Int) by unfold C8;rw [hl]] at Z;have Z:=bU Z;obtain ⟨c,a',c',e1,e2,e3,e4,-⟩:=h.at Y hl;obtain ⟨g,rfl,r1⟩:=V.get e1;have ag:i<st.cur.cells.length:=by
  rcases cO i st.cur.cells.length with h'|h'
  . exact h'
  . rw [cI h'] at e1;cases e1
 have U:Row w ⟨g,0+(i:Int).toNat*1,none⟩ [Ki κ c]:=r1;rw [e4];clear h hf O V Y r1 e1 e2 e3 e4;unfold Ki at U;generalize κ c=cb at *;generalize st.cur.cells.length=n2 at *;generalize st.cur.vars=vs at *;generalize st.calls.length=nc at *;refine Ac func171 ntmps171 rfl rfl ?_;refine eK ?_;refine cC rfl (HC.out _ Ae) ?_;rintro _ w2 ⟨⟨⟩,x1⟩;revert X U L F G;refine eY x1 ?_;intro z3 X U L F G;refine eK ?_;refine Ar (fun wz=>Ext w2 wz) 7 (.pure 0 (.pure 1 (.pure 2 (.pure 3 (.pure 4 (.pure 5 (.fork 6 .tail .none))))))) mixed A9 (Aa Ah) ?_;intro w4 x5 _;have M:(fun wz=>Ext w2 wz) w4:=x5;simp only at M;have ad:=U;have aa:=L;have N:=F;have ab:=G;revert X U L F G;refine eY x5 ?_;intro z7 X U L F G;refine ⟨M,?_⟩;refine eT ?_;refine Tq rfl (Dr N) (Tq rfl Mv (Tq rfl Mv ?_));refine tC rfl rfl (Z.out _ Ae Ae) ?_;rintro _ ah ⟨⟨⟩,x9⟩;revert M X U L F G;refine eY x9 ?_;intro ai M X U L F G;refine ⟨M,?_⟩;refine At rfl ?_;refine eK ?_;refine xR ?_;exact ⟨rfl,X⟩
end
def XS (vs:List VD) (hv:vs.length<=1000000) (av:oA) (cv:Nat) (vc nl:Value) (fb fo:Nat) (N:Nat) : ∀(t:Nd) (S S':nP) (a:oA) (c:Nat) (w:wD),t.size<N->t.size<=1000000000->t.sits S w a->Row w ⟨fb,fo,none⟩ [.slice av vs.length cv,vc,nl]->VDs S' w vs av ->
 Calls prog 159 #[.pointer (some ⟨fb,fo,none⟩),t.val a c] w fun e w'=>e = .returned (.int .i64 (t.bad vs))/\Ext w w':=by
 induction N with
 | zero=>intro t S S' a c w h;omega
 | succ N ih=>
  rintro ⟨k,n,s,l⟩ S S' a c w hN hM L M F;have IH:=bU ih;clear ih;simp only [Nd.sits] at L;simp only [fF] at hN hM;have X:=eU w;have hl:=EM l;have L:=BV _ _ L;have F:=F.ltV;have bo:fb<w.heap.size:=Co (M.at0 rfl);have HF:=bU (fun w1 h1=>OL vs hv s (· < w.heap.size) av cv w1 h1);rw [Nd.bad];change Calls prog _ #[.pointer (some ⟨fb,fo,none⟩),.agg #[.int .u8 k,.int .i64 n,str s,.slice a l.length c]] w _;generalize hq:(Ep vs s).isSome=q at HF;generalize hz:(Ep vs s).getD VP=z at HF;obtain ⟨zn,zk,zl⟩:=z;have hu:EC vs s (CS k)=if q=false then 6 else if zk=CS k then 0 else 7:=by
   unfold EC;cases hf:Ep vs s with
   | none=>rw [hf] at hq;subst hq;rfl
   | some v=>rw [hf] at hq hz;subst hq;simp only [Option.getD_some] at hz;rw [hz];rfl
  rw [hu];clear hq hz hu;generalize hn:CS k=nk at *;have HN:=XR k;rw [hn] at HN;have HN:=bU HN;refine Ac func159 ntmps159 rfl rfl ?_;refine cS (eB [_,_,_,_] ?_);intro b1 w2 O x5 p6 z7;revert M X L F;refine eE x5 ?_;intro M X L F;refine eK ?_;refine cC rfl (HN.out _) ?_;rintro _ w9 ⟨⟨⟩,x8⟩;revert O M X L F;refine eY x8 ?_;intro bp O M X L F;refine C1 Pa (cT ?_);refine DY (ι:=Unit) (fun _=>[(0,.pointer (some ⟨fb,fo,none⟩)),(3,.pointer (some ⟨b1,0,none⟩))]) (fun _ w'=>Row w' ⟨fb,fo,none⟩ [.slice av vs.length cv,vc,nl]/\VDs (· < w.heap.size) w' vs av/\rowSits (· < w.heap.size) w' l a/\Blk w' b1 [.int .u8 k,.int .i64 n,str s,.slice a l.length c]/\Ext w w' /\ ¬(nk≠0/\(if q=false then (6:Int) else if zk=nk then 0 else 7)≠0)) ?_ ?_
  . focus
     refine eK ?_;refine BU rfl (fun ax=>?_) (fun ax=>?_);refine Ai (Ar (fun wz=>Ext w9 wz) 12 (.pure 0 (.pure 1 (.pure 2 (.pure 3 (.pure 4 (.pure 5 (.fork 6 (.pure 7 (.pure 8 (.pure 9 (.fork 10 (.fork 11 .tail .none) .none)))) (.fork 10 (.fork 6 (.pure 7 (.pure 8 (.pure 9 (.fork 11 .tail .none)))) .none) .none)))))))) mixed A9 (Aa (Aa Ah)) ?_);intro ay af _;have G:(fun wz=>Ext w9 wz) ay:=af;simp only at G;have ag:=O;have ah:=M;have a5:=L;have az:=F;revert O M X L F;refine eY af ?_;intro bq O M X L F;refine ⟨G,?_⟩;refine eT ?_;refine Tq rfl (An Ad rfl rfl rfl (fun wz hz=>fV (fL ah hz) rfl)) (Tq rfl Pf (Tq rfl (Db ag) ?_));refine Ax rfl (AU A9 rfl (HF.out _ Ae) (fun _ _ h=>⟨_,h.1⟩)) rfl ?_ aFh ?kra6;rintro _ br ⟨⟨⟩,a0⟩;revert G O M X L F;refine eY a0 ?_;intro bs G O M X L F;refine ⟨G,?_⟩;refine eT ?_;refine Ax rfl (Bt CY rfl) rfl ?_ aFh Aw;rintro _ a6 ⟨a7,rfl,V⟩;have ad:=V.blk;dsimp only at ad;have ai:=V.ext;have a8:=V.pos;have a9:=V.size;revert G O M X L F;refine eE ai ?_;intro G O M X L F;refine ⟨G,?_⟩;refine DS [_,_,_] [_,_,_] rfl Ad rfl rfl rfl rfl rfl rfl ad rfl rfl ?_ Aw;intro ba aa;have bb:=aa.blk;have aj:=aa.fr;have bc:=aa.size;revert G O M X L F;refine eF aj ?_;intro G O M X L F;refine ⟨G,?_⟩;refine At rfl (C1 Pa (cT (Ai (cS (C1 Mv (C1 Pt (cT ?_)))))));refine Hx rfl (fun ak=>?_) (fun ak=>?_);refine eK ?_;refine xR ?_;rotate_left;refine eK ?_;refine BU rfl (fun al=>?_) (fun al=>?_);refine eK ?_;refine xR ?_;rotate_left;refine Am ?_;rotate_left;refine Ax rfl (Bt CY rfl) rfl ?_ aFh Aw;rintro _ bd ⟨be,rfl,Y⟩;have Z:=Y.blk;dsimp only at Z;have am:=Y.ext;have bf:=Y.pos;have bg:=Y.size;revert G O M X L F;refine eE am ?_;intro G O M X L F;refine ⟨G,?_⟩;refine tC rfl rfl (HF.out _ Ae) ?_;rintro _ bh ⟨⟨⟩,an⟩;revert Z G O M X L F;refine eY an ?_;intro bi Z G O M X L F;refine ⟨G,?_⟩;refine eT ?_;refine DS [_,_,_] [_,_,_] rfl Ad rfl rfl rfl rfl rfl rfl Z rfl rfl ?_ Aw;intro bj ab;have bk:=ab.blk;have ao:=ab.fr;have bl:=ab.size;revert G O M X L F;refine eF ao ?_;intro G O M X L F
     refine ⟨G,?_⟩;refine At rfl (C1 Pa (cT (Ai (cS (C1 Mv (C1 Pt (cT ?_)))))));refine Hx rfl (fun ap=>?_) (fun ap=>?_);refine eK ?_;refine xR ?_;rotate_left;refine eK ?_;refine BU rfl (fun aq=>?_) (fun aq=>?_);refine eK ?_;refine xR ?_;rotate_left;refine Am ?_;rotate_left;refine Am ?_;rotate_left
    all_goals first
     | exact ⟨by rw [AG (show q=false by assumption),AG ⟨Ae,AY⟩],X⟩
     | exact ⟨by rw [As (show ¬q=false by simp [*]),As (show ¬zk=nk by assumption),AG ⟨Ae,AY⟩],X⟩
     | exact B8 () sB ⟨Ae,Ae,Ae,Ae,X,fun h=>h.1 Ae⟩
     | exact B8 () sB ⟨Ae,Ae,Ae,Ae,X,fun h=>h.2 (by rw [As (show ¬q=false by simp [*]),AG (show zk=nk by assumption)])⟩
  clear L M F X HF HN;rintro-w1 ⟨M,F,L,hb,X,ar⟩;rw [As ar];clear ar hn;refine Ai (cS (C1 Pf (C1 (Pl hb) (C1 Pz (C1 Mv (cT ?_))))));clear O hb;refine Av ?_;refine A1 (ι:=Nat) (fun j=>[(0,.pointer (some ⟨fb,fo,none⟩)),(33,.slice a l.length c),(34,.int .i64 l.length),(35,.int .i64 j)])
   (fun j w'=>j<=l.length/\Row w' ⟨fb,fo,none⟩ [.slice av vs.length cv,vc,nl]/\VDs (· < w.heap.size) w' vs av/\rowSits (· < w.heap.size) w' l a/\Ext w w'/\Ft vs l=Ft vs (l.drop j))
   (fun j=>l.length-j) 0 sB ⟨cQ _,M,F,L,X,rfl⟩ ?_
  clear M F L X;rintro j w1 ⟨hj,M,F,L,X,U⟩;by_cases ac:j<l.length
  . obtain ⟨kb,ko,rfl,bt,ae⟩:=BA L (by intro e;subst e;simp at ac);obtain ⟨xa,xc,rx,sx⟩:=ae j l[j] (bT ac);have bu:=DP (cL ac);rw [dH ac,Ft] at U;clear ae;generalize l[j]=x at *;have HX:=bU (IH.out x (· < w.heap.size) (· < w.heap.size) xa xc);generalize a1:x.bad vs=xb at *;obtain ⟨xk,xn,xs,xl⟩:=x;replace rx:Row w1 ⟨kb,ko+j*4,none⟩ [.int .u8 xk,.int .i64 xn,str xs,.slice xa xl.length xc]:=rx;clear a1
    focus
     refine eK ?_;refine xA [_,_,_,_] ?_;intro bv bw a2;refine eI [_,_,_,_] a2 ?_;intro bx au a3 bz b0;revert M F X L sx rx;refine eE a3 ?_;intro M F X L sx rx;refine eK ?_;refine cC rfl (HX.out _ Ab Ab Ae Ae Ae) ?_;rintro _ bm ⟨⟨⟩,a4⟩;revert au M F X L sx rx;refine eY a4 ?_;intro bn au M F X L sx rx;refine eK ?_;refine BU rfl (fun aw=>?_) (fun aw=>?_);refine eK ?_;refine xR ?_;rotate_left;refine Am (Af (Ag (Aj (C1 V7 (C1 Mv (Ak ?_))))));rotate_left
    . exact ⟨by rw [U,AG Ae],X⟩
    . refine AI (j+1) sB ⟨Ab,M,F,L,X,?_⟩ Ab;rw [U,As (fun h=>h Ae)]
  . have:j=l.length:=by omega
    subst this;rw [List.drop_length] at U;rw [U];refine eK ?_;refine xR ?_;exact ⟨rfl,X⟩
def XT (k:Int) (M:40<=k/\k<=49) (w:wD):Calls prog 158 #[.int .u8 k] w fun e w'=>e = .returned (.bool true)/\Ext w w':=by
 have X:=eU w;refine Ac func158 ntmps158 rfl rfl ?_
 focus
  refine eK ?_;refine Ay rfl (fun h=>?_) (fun h=>?_);refine eK ?_;refine xR ?_;rotate_left;refine eK ?_;refine Ay rfl (fun c2=>?_) (fun c2=>?_);refine eK ?_;refine xR ?_;rotate_left;refine eK ?_;refine Ay rfl (fun c3=>?_) (fun c3=>?_);refine eK ?_;refine xR ?_;rotate_left;refine eK ?_;refine Ay rfl (fun c4=>?_) (fun c4=>?_);refine eK ?_;refine xR ?_;rotate_left;refine eK ?_;refine Ay rfl (fun c5=>?_) (fun c5=>?_);refine eK ?_;refine xR ?_;rotate_left;refine eK ?_;refine Ay rfl (fun F=>?_) (fun F=>?_);refine eK ?_;refine xR ?_;rotate_left;refine eK ?_;refine Ay rfl (fun G=>?_) (fun G=>?_);refine eK ?_;refine xR ?_;rotate_left;refine eK ?_;refine Ay rfl (fun L=>?_) (fun L=>?_);refine eK ?_;refine xR ?_;rotate_left;refine eK ?_;refine Ay rfl (fun c9=>?_) (fun c9=>?_);refine eK ?_;refine xR ?_;rotate_left;refine eK ?_;refine xR ?_;rotate_left
 all_goals first
  | exact ⟨rfl,X⟩
  | (exfalso;omega)
def Ur (k:Int) (M : ¬(k=50\/k=51)) (w:wD):Calls prog 157 #[.int .u8 k] w fun e w'=>e = .returned (.int .u8 (Bd k))/\Ext w w':=by
 have X:=eU w;refine Ac func157 ntmps157 rfl rfl ?_
 focus
  refine eK ?_;refine Ay rfl (fun h=>?_) (fun h=>?_);refine eK ?_;refine xR ?_;rotate_left;refine eK ?_;refine Ay rfl (fun c2=>?_) (fun c2=>?_);refine eK ?_;refine xR ?_;rotate_left;refine eK ?_;refine Ay rfl (fun c3=>?_) (fun c3=>?_);refine eK ?_;refine xR ?_;rotate_left;refine eK ?_;refine Ay rfl (fun c4=>?_) (fun c4=>?_);refine eK ?_;refine xR ?_;rotate_left;refine eK ?_;refine Ay rfl (fun c5=>?_) (fun c5=>?_);refine eK ?_;refine xR ?_;rotate_left;refine eK ?_;refine Ay rfl (fun F=>?_) (fun F=>?_);refine eK ?_;refine xR ?_;rotate_left;refine eK ?_;refine Ay rfl (fun G=>?_) (fun G=>?_);refine eK ?_;refine xR ?_;rotate_left;refine eK ?_;refine Ay rfl (fun L=>?_) (fun L=>?_);refine eK ?_;refine xR ?_;rotate_left;refine eK ?_;refine xR ?_;rotate_left
 all_goals (refine ⟨?_,X⟩;unfold Bd)
 all_goals first
  | (subst k;rfl)
  | (repeat rw [As Ab])
def Us (ρ:Nat->Rl) (w w':wD) (r:Rl):Nat->Rl:=fun b=>if w.heap.size<=b/\b<w'.heap.size then r else ρ b
def VT (ρ:Nat->Rl) (w w':wD) (r:Rl):Ro ρ (Us ρ w w' r) w:=fun b h=>As Ab
def SX (ρ:Nat->Rl) {w w':wD} (r:Rl) {b:Nat} (h:w.heap.size<=b) (F:b<w'.heap.size):Us ρ w w' r b=r:=AG ⟨h,F⟩
def NP {ρ:Nat->Rl} {w w':wD} {r:Rl} (h:Fresh ρ w) (F:w.heap.size<=w'.heap.size):Fresh (Us ρ w w' r) w':=fun b G=>by
 unfold Us;rw [As Ab];exact h b Ab
section
variable {P:Program} {n:Nat} {l:Sl} {w:wD} {tab:Tab} {zt:EV} {ty:TypeId}
def FF {x y:Operand} {t e sz1 sz b k m cap:Nat} {sE:Sk} {zs:lV} {v:Value} {cs us:lV} {p:Addr} (T:TabOk P tab) (Z:CN P zt) (ht:Az tab t=some (.slice e,sz1)) (hE:Az tab e=some (sE,sz)) (hz:Da zt e=some zs) (hzl:zs.length=sz)
 (hby:DM P e=true) (hsz:cV 0 sz=true) (hx:ev l x=some v) (hy:ev l y=some (.slice (some p) m cap)) (hown:Own w b e sz v k cs) (hr:Row w p us) (hul:us.length=m*sz) (hu:us.all Value.one=true) (hkm:k+m<=100000000000) (hm0:0<k+m) (hb:b<=w.heap.size) :
 B5 P n l (.call ⟨.builtin .append,#[x,y],#[t,t]⟩) ty w (Ku fun o w'=> ∃g cap,o = .slice (some ⟨g,0,none⟩) (k+m) cap/\Own w' b e sz (.slice (some ⟨g,0,none⟩) (k+m) cap) (k+m) (cs++us)/\Fr (fun k=>v.ownBlock=some k) w w'/\(v.ownBlock=some g\/w.heap.size<=g)/\g<w'.heap.size):=by
 have hd:=Eo (P:=P) (n:=n) (l:=l) (ty:=ty) T Z ht hE hz hzl hby hsz hx hy hown hr hul hu hkm hm0 hb;unfold B5 at hd ⊢;intro a dst pos after g next Q ha hn c;refine hd a dst pos after g next Q ha (fun v' w' hG=>?_) (fun w' hG=>hG.elim);obtain ⟨g1,g2,g,cap',g3,g4⟩:=hG;exact hn v' w' ⟨g,cap',g3,g3▸g1,g2,g4,(g1.blk (k:=g) (by rw [g3];rfl)).2⟩
end
section
variable {ρ:Nat->Rl} {κ:Nat->Nat} {j:Nat}
def AddR (ρ:Nat->Rl) (κ:Nat->Nat) (j fb fo:Nat) (pre post:lV) (T:TypeId) (nl:Value) (f:Frm) (w:wD):Ending->wD->Prop:=fun e w'=> ∃vv vc ρ',e = .returned (.tuple #[])/\Ro ρ ρ' w/\Fresh ρ' w'/\Win w' fb fo [vv,vc,nl] pre post T/\FrameOk ρ' κ w' j f vv vc/\Fr (FB ρ j fb) w w'
def AddR.ret {F G:Nat} {pre post:lV} {T:TypeId} {L:Value} {f:Frm} {w:wD} {e:Ending} {w':wD} (h:AddR ρ κ j F G pre post T L f w e w') : ∃v,e = .returned v:=by
 obtain ⟨_,_,_,h,-⟩:=h;exact ⟨_,h⟩
def SY (f:Frm) (v:VD) (c fb fo:Nat) (pre post:lV) (T:TypeId) (vv vc nl:Value) (w:wD) (hF:FrameOk ρ κ w j f vv vc) (hw:Win w fb fo [vv,vc,nl] pre post T) (hr:ρ fb≠.vars j/\ρ fb≠.cels j) (am:Fresh ρ w) (hv:f.vars.length<=1000000) (hc:f.cells.length<=1000000) :
 Calls prog 104 #[.pointer (some ⟨fb,fo,none⟩),v.val,Ki κ c] w (AddR ρ κ j fb fo pre post T nl ⟨f.vars++[v],f.cells++[c],f.locals⟩ w):=by
 obtain ⟨⟨ov,rv⟩,⟨U,rc⟩⟩:=hF;have a2:fb<w.heap.size:=hw.1.blk.lt;have F:=fC (FB ρ j fb) w;have n1 : ∀k,vv.ownBlock=some k->ρ k = .vars j/\k<w.heap.size:=fun k G=>⟨rv k G,(ov.blk G).2⟩
 have n2 : ∀k,vc.ownBlock=some k->ρ k = .cels j/\k<w.heap.size:=fun k G=>⟨rc k G,(U.blk G).2⟩
 have d1 : ∀k,vv.ownBlock=some k -> ¬k=fb:=fun k G e=>by subst e;exact hr.1 (n1 k G).1
 have d2 : ∀k,vc.ownBlock=some k -> ¬k=fb:=fun k G e=>by subst e;exact hr.2 (n2 k G).1
 have d3 : ∀k,vc.ownBlock=some k -> ¬vv.ownBlock=some k:=fun k G e=>by have:=(n1 k e).1;rw [(n2 k G).1] at this;cases this
 obtain ⟨vn,vk,vl⟩:=v;generalize hN:f.vars.length=N at *;generalize hM:f.cells.length=M at *;generalize hV:f.vars.flatMap VD.cells=V at *;generalize hC:f.cells.map (Ki κ)=C at *;change Calls prog _ #[_,.agg #[str vn,.int .u8 vk,.int .i64 vl],.pointer (some ⟨κ c,0,none⟩)] w _;refine Ac func104 ntmps104 rfl rfl ?_;have au:=bU am;clear am;refine cS (eB [_,_,_] ?_);intro b1 w2 h4 x5 p6 z7;revert hw F ov U;refine eE x5 ?_;intro hw F ov U;refine eK ?_;refine Ar (fun wz=>Fr ((fun k=>vv.ownBlock=some k)) w2 wz) 8 (.pure 0 (.pure 1 (.pure 2 (.pure 3 (.pure 4 (.pure 5 (.fork 6 (.fork 7 .tail .none) .none))))))) mixed A9 (Aa Ah) ?_;intro w8 x9 _;have L:(fun wz=>Fr ((fun k=>vv.ownBlock=some k)) w2 wz) w8:=fE x9;simp only at L;have an:=h4;have ao:=hw;have a0:=ov;have a1:=U;revert h4 hw F ov U;refine eY x9 ?_;intro a3 h4 hw F ov U;refine ⟨L,?_⟩;refine eT ?_;refine Tq rfl (An Ad rfl rfl rfl (fun wz hz=>fV (fK (fW ao) hz (fun h=>d1 _ h rfl)) rfl)) (Tq rfl (xL [_,_,_] (fun wz hz=>(fB an hz (fun h=>by have:=(n1 _ h).2;omega)))) ?_);refine Ax rfl (xS [_,_,_]) rfl ?_ aFh Aw;rintro _ ai ⟨a4,rfl,ad,a5⟩;have Y:=ad.blk;have av:=ad.ext;have a6:=ad.pos;have z20:=ad.size;revert L h4 hw F ov U;refine eE av ?_;intro L h4 hw F ov U;refine ⟨L,?_⟩;refine Ax rfl (FF Ad CY rfl rfl rfl rfl A9 rfl rfl rfl Ae (fN Ae) rfl rfl Ab Ab (cQ _)) rfl ?_ aFh Aw;rintro _ aj ⟨ae,⟨aw,⟨rfl,⟨O,⟨X,⟨af,a7⟩⟩⟩⟩⟩⟩
 have a8:=X.size;have Y:=fB Y X (fun h=>by have:=(n1 _ h).2;omega);have L:=fJ L X (fun k G=>bW G);have h4:=fB h4 X (fun h=>by have:=(n1 _ h).2;omega);have hw:=Win.fr hw X (fun h=>d1 _ h rfl);have F:=fJ F X (fun k G=>bW (bX (bW (n1 k G).1)));clear ov;have U:=fX U X (fun k G Z=>d3 k G Z);refine ⟨L,?_⟩;refine At rfl ?_;refine eK ?_;refine Br (FA fb fo [_,_,_] Ad rfl rfl rfl rfl rfl rfl Ae rfl rfl) (Cg ?_);rintro _ a9 ⟨aa,⟨ab,ba⟩⟩;have bb:=ab.size;have O:=fX O ab (fun k G Z=>by (obtain rfl:=cD (show some ae=some k from G);rcases af with h|h;exact d1 _ h Z;omega));revert Y h4;refine eF ab ?_;intro Y h4;clear hw;have F:=fJ F ab (fun k G=>bW (bW G));have U:=fX U ab (fun k G Z=>d2 k G Z);refine eK ?_;refine DI Ad rfl rfl rfl (fW aa) rfl rfl (C1 Mv ?_);refine AC (xS [_]) rfl ?_ aFh;rintro _ ak ⟨bc,rfl,ag,bd⟩;have be:=ag.blk;have ax:=ag.ext;have bf:=ag.pos;have bg:=ag.size;revert aa O Y h4 F U;refine eE ax ?_;intro aa O Y h4 F U;refine AC (FF Ad CY rfl rfl rfl rfl A9 rfl rfl rfl Ae (fN Ae) rfl rfl Ab Ab (cQ _)) rfl ?_ aFh;rintro _ al ⟨ap,⟨ay,⟨rfl,⟨aq,⟨ac,⟨ar,bh⟩⟩⟩⟩⟩⟩;have bi:=ac.size;have aa:=Win.fr aa ac (fun h=>d2 _ h rfl);have O:=fX O ac (fun k G Z=>by (obtain rfl:=cD (show some ae=some k from G);rcases af with h|h;exact d3 _ Z h;have:=(n2 _ Z).2;omega));have F:=fJ F ac (fun k G=>bW (bX (bX (n2 k G).1)));clear U ac;refine eK ?_;refine Br (CK fb fo 1 [_,_,_] Ad rfl rfl rfl rfl rfl rfl Ae rfl rfl) (Cg ?_);rintro _ bj ⟨az,⟨ah,bk⟩⟩;have bl:=ah.size;have aq:=fX aq ah (fun k G Z=>by (obtain rfl:=cD (show some ap=some k from G);rcases ar with h|h;exact d2 _ h Z;omega));have O:=fX O ah (fun k G Z=>by (obtain rfl:=cD (show some ae=some k from G);rcases af with h|h;exact d1 _ h Z;omega));have F:=fJ F ah (fun k G=>bW (bW G));refine Ak (Bs rfl ?_)
 have e1 : ∀b,Us (Us ρ ai aj (.vars j)) ak al (.cels j) b=if ak.heap.size<=b/\b<al.heap.size then .cels j else if ai.heap.size<=b/\b<aj.heap.size then .vars j else ρ b:=fun b=>rfl
 refine ⟨_,_,Us (Us ρ ai aj (.vars j)) ak al (.cels j),rfl,fun b hb=>?_,fun b hb=>?_,az,⟨⟨?_,fun k G=>?_⟩,⟨?_,fun k G=>?_⟩⟩,F⟩
 . rw [e1,As Ab,As Ab]
 . rw [e1,As Ab,As Ab];exact au.out b Ab
 . rw [List.flatMap_append,hV,cP,hN];assumption
 . obtain rfl:=cD (show some ae=some k from G);rw [e1];rcases af with h|h
   . have:=(n1 _ h).2;rw [As Ab,As Ab];exact (n1 _ h).1
   . rw [As Ab,AG Ab]
 . rw [List.map_append,hC,cP,hM];assumption
 . obtain rfl:=cD (show some ap=some k from G);rw [e1];rcases ar with h|h
   . have:=(n2 _ h).2;rw [As Ab,As Ab];exact (n2 _ h).1
   . rw [AG Ab]
end
def OM (ops:Array Oper) (wr:List Nat) (i:Nat):Prop:= ∀(listed:Array Bool) (j:Nat) (o:Oper),DC ops listed->listed.getD j true=false->wr.contains j=true->ops[j]? = some o->(∀e∈o.after,dT .any e=true->listed.getD e.on false=true)->listed.getD i false=true
def ON (ops:Array Oper) (E wr:List Nat) (j0:Nat):Bool:=(E.all fun i=>cV i ops.size&&(List.range' (i+1) (ops.size-(i+1))).any fun m=>(eC m j0||E.contains m)&&Jy ops m i)&&wr.all fun j=>eC j j0||Jy ops j j0
def Me {ops:Array Oper} {E wr:List Nat} {j0:Nat} (h:ON ops E wr j0=true) {i:Nat} (hE:E.contains i=true):OM ops wr i:=by
 simp only [ON,bZ,List.all_eq_true] at h;obtain ⟨h1,h2⟩:=h;intro F j o O ae hj ho L;have G:=h2 j (by simpa using hj);simp only [Bool.or_eq_true] at G;have M : ∀o0,ops[j0]? = some o0 -> ∀e∈o0.after,dT .any e=true->F.getD e.on false=true:=by
  intro o0 N;rcases G with G|G
  . have aa:=dO G;subst aa;rw [ho] at N;obtain rfl:=cD N;exact L
  . obtain ⟨oj,e',U,ab,ac,V⟩:=EW G;rw [ho] at U;obtain rfl:=cD U;have hl:=L e' ab ac;rw [V] at hl;exact O j0 o0 N hl
 have key : ∀d i,ops.size-i<=d->E.contains i=true->F.getD i false=true:=by
  intro d
  induction d with
  | zero=>
   intro i hd hi;have:=dE (h1 i (by simpa using hi)).1;omega
  | succ d ih=>
   intro i hd hi;have hg:=h1 i (by simpa using hi);simp only [List.any_eq_true,List.mem_range'_1,bZ,Bool.or_eq_true] at hg;obtain ⟨-,m,hm,X,hw⟩:=hg;obtain ⟨om,e,Y,he,hb,Z⟩:=EW hw;rcases X with X|X
   . have ad:=dO X;subst ad;have:=M om Y e he hb;rwa [Z] at this
   . have hl:=ih m Ab X;have:=O m om Y hl e he hb;rwa [Z] at this
 exact key _ i (cH _) hE
section
variable {P:Program} {ops:Array Oper} {Q:Exit->Act->wD->Prop} {S S2:wD->Prop} {E wr:List Nat} {K:Nat}
def Ky (P:Program) (ops:Array Oper) (Q:Exit->Act->wD->Prop) (S S2:wD->Prop) (wr:List Nat) (K:Nat):Nat->Array Bool->Act->wD->Prop
 | 0,listed,a,w=>cZ .any ops listed=[]/\Q .normal a w
 | fuel+1,listed,a,w=>
  (cZ .any ops listed=[]->Q .normal a w) /\
  ∀i∈cZ .any ops listed,wpOp P ops Q i (fun a' w'=>(wr.contains i=false->(S w->S w')/\(S2 w->S2 w'))/\(wr.contains i=true->i<K->S2 w')/\Ky P ops Q S S2 wr K fuel (listed.setIfInBounds i true) a' w') a w
def Mf : ∀(F:Nat) (G:Array Bool) (a:Act) (w:wD),Ky P ops Q S S2 wr K F G a w->wpAny P .any ops Q F G a w
 | 0,_,_,_,h=>h
 | F+1,_,_,_,h=>⟨h.1,fun i L=>wpOp_mono (fun M w' N=>Mf F _ M w' N.2.2) (h.2 i L)⟩
def JR {i:Nat} {oi:Oper} {v:Value} {T:wD->Prop} (hi:ops[i]? = some oi) (hT:(OM ops wr i/\T=S)\/(EX ops K i/\T=S2)) (ac:wr.contains i=false) (Z : ∀(j:Nat) (o:Oper) cs b,ops[j]? = some o->o.op≠.select cs b)
 (hQ : ∀c a w,Q (.panic c) (a.put oi.dst v) w->Q (.panic c) a w) :
 ∀(G:Nat) (F:Array Bool) (a:Act) (w:wD),DC ops F ->
  (∀j X,ops[j]? = some X->j≠i->F.getD j true=false->(∀e∈X.after,dT .any e=true->e.on≠i)->oi.apart ops X=true) ->
  i∈cZ .any ops F->YieldsIf P ops T oi v a->T w ->
  Ky P ops Q S S2 wr K G (F.setIfInBounds i true) (a.put oi.dst v) w->Ky P ops Q S S2 wr K (G+1) F a w:=by
 intro G
 induction G with
 | zero=>
  intro F a w _ _ hr hy hS H;refine ⟨fun h=>(by rw [h] at hr;cases hr),fun j hj=>?_⟩;by_cases L:j=i
  . subst L;exact hy.wpOp hi hS ⟨fun _=>⟨id,id⟩,fun e=>(by rw [ac] at e;cases e),H⟩
  . have:=ready_mono hj L;rw [H.1] at this;cases this
 | succ G ih=>
  intro F a w aa N hr hy hS H;refine ⟨fun h=>(by rw [h] at hr;cases hr),fun j hj=>?_⟩;by_cases L:j=i
  . subst L;exact hy.wpOp hi hS ⟨fun _=>⟨id,id⟩,fun e=>(by rw [ac] at e;cases e),H⟩
  . have h1:=H.2 j (ready_mono hj L);obtain ⟨O,X,U,V⟩:=mem_ready.1 hj;have M : ¬F.getD i false=true:=fun hc=>by
     have h0:=(mem_ready.1 hr).1;rcases cO i F.size with h'|h'
     . simp [h'] at h0 hc;rw [h0] at hc;cases hc
     . simp [dX h'] at hc
    have af : ∀w',(wr.contains j=false->(S w->S w')/\(S2 w->S2 w'))->(wr.contains j=true->j<K->S2 w')->T w':=fun w' h' h2=>by
     rcases hT with ⟨ab,rfl⟩|⟨ab,rfl⟩
     . cases hej:wr.contains j
       . exact (h' hej).1 hS
       . exact absurd (ab F j X aa O hej U V) M
     . cases hej:wr.contains j
       . exact (h' hej).2 hS
       . rcases cO j K with h|h
         . exact h2 hej h
         . exact absurd (ab F j X aa h U V) M
    have ad : ∀e∈X.after,dT .any e=true->e.on≠i:=fun e he hb ag=>M (ag▸V e he hb)
    have h2:=wpOp_putIf U (N j X U L O ad) (fun cs b=>Z i oi cs b hi) (fun cs b=>Z j X cs b U) hQ hy h1;have Y : ∀k ok,ops[k]? = some ok->k≠i->(F.setIfInBounds j true).getD k true=false ->
     (∀e∈ok.after,dT .any e=true->e.on≠i)->oi.apart ops ok=true:=fun k ok hk ah M ai=>by
     refine N k ok hk ah ?_ ai;by_cases ae:j=k
     . subst ae;exact O
     . rw [getD_set_ne true ae] at M;exact M
    refine wpOp_mono (fun a' w' h3=>⟨h3.2.1,h3.2.2.1,ih (F.setIfInBounds j true) a' w' (aa.set hj) Y (ready_mono hr (Ne.symm L)) h3.1 (af w' h3.2.1 h3.2.2.1) ?_⟩) h2;rw [Array.setIfInBounds_comm _ _ L];exact h3.2.2.2
end
def ScE.okW (ops:Array Oper) (E wr:List Nat) (K:Nat):ScE->Nat->Array Bool->Bool
 | .done,_,listed=>(cZ .any ops listed).isEmpty
 | .pure i r,f+1,listed=>E.contains i && !(wr.contains i)&&(cZ .any ops listed).contains i&&Region.free .any ops listed i&&ScE.okW ops E wr K r f (listed.setIfInBounds i true)
 | .free i r,f+1,listed=> !(wr.contains i)&&cV i K&&(cZ .any ops listed).contains i&&Region.free .any ops listed i&&ScE.okW ops E wr K r f (listed.setIfInBounds i true)
 | .put i r,f+1,listed=>wr.contains i&&(cZ .any ops listed==[i])&&ScE.okW ops E wr K r f (listed.setIfInBounds i true)
 | .tail k,f,listed=>dW K k&&eC (f+k) ops.size&&(List.range' k f).all (fun j=>wr.contains j)&&Fv ops f k listed
 | _,_,_=>false
def Jf {P:Program} {ops:Array Oper} {Q:Exit->Act->wD->Prop} {S S2:wD->Prop} {wr:List Nat} {K:Nat} : ∀(f k:Nat) (F:Array Bool) (a:Act) (w:wD),K<=k->f+k=ops.size->(∀j,k<=j->j<k+f->wr.contains j=true)->Fv ops f k F=true->wpList P ops Q (ops.toList.drop k) a w->Ky P ops Q S S2 wr K f F a w
 | 0,k,F,a,w,X,Y,M,G,h=>by
  have:ops.toList.drop k=[]:=List.drop_eq_nil_of_le (by simp;omega);rw [this] at h;exact ⟨by simpa [Fv] using G,h⟩
 | f+1,k,F,a,w,X,Y,M,G,h=>by
  simp only [Fv,bZ,beq_iff_eq] at G;have N:k<ops.toList.length:=by simp;omega
  rw [dH N] at h;refine ⟨fun e=>absurd (G.1.symm.trans e) AR,fun i O=>?_⟩;rw [G.1] at O;simp only [List.mem_singleton] at O;subst O;have V:=M i (cH _) Ab;have L : ∀j,i+1<=j->j<i+1+f->wr.contains j=true:=fun j h1 h2=>M j Ab Ab
  have Z:ops[i]? = some ops.toList[i]:=by simp
  unfold wpList at h;unfold wpOp;rw [Z];simp only;split
  . rename_i U;rw [AG U] at h;rcases h with h|h
    . exact bW (Oper.wp_mono (fun a' w' h'=>⟨fun e=>(by rw [V] at e;cases e),fun _ e=>by omega,Jf f (i+1) _ a' w' Ab Ab L G.2 h'⟩) h)
    . exact bX h
  . rename_i U;rw [As U] at h;exact ⟨fun e=>(by rw [V] at e;cases e),fun _ e=>by omega,Jf f (i+1) _ _ w Ab Ab L G.2 h⟩
def HTE.anyW {P:Program} {ops:Array Oper} {Q:Exit->Act->wD->Prop} {S S2:wD->Prop} {E wr:List Nat} {K:Nat} (M : ∀i,i<K->EX ops K i) (V:Region.noSelect ops=true) (O : ∀i,E.contains i=true->OM ops wr i) (X:D3 Q) :
 ∀(s:ScE) (f:Nat) (F:Array Bool) (a:Act) (w:wD),DC ops F->HTE P ops Q S S2 s a w->ScE.okW ops E wr K s f F=true->Ky P ops Q S S2 wr K f F a w
 | .done,f,F,a,w,N,h,G=>by
  have U:cZ .any ops F=[]:=by simpa [ScE.okW] using G
  cases f with
  | zero=>exact ⟨U,h⟩
  | succ f=>exact ⟨fun _=>h,by rw [U];simp⟩
 | .tail k,f,F,a,w,N,h,G=>by
  simp only [ScE.okW,bZ,List.all_eq_true,List.mem_range'_1] at G;exact Jf f k F a w (dE G.1.1.1) (dO G.1.1.2) (fun j h1 Y=>G.1.2 j ⟨h1,Y⟩) G.2 h
 | .pure i r,0,F,a,w,N,h,G=>by simp [ScE.okW] at G
 | .pure i r,f+1,F,a,w,N,h,G=>by
  simp only [ScE.okW,bZ,Bool.not_eq_true'] at G;obtain ⟨hS,o,v,ho,hy,U⟩:=h;have Z:ops[i]? = some o:=by simpa using ho
  have L:i∈cZ .any ops F:=by simpa using G.1.1.2
  exact JR (T:=S) Z (bW ⟨O i G.1.1.1.1,rfl⟩) G.1.1.1.2 (Region.noSelect_spec V) (fun c a w=>X o.dst v c a w) f F a w N (Region.free_spec Z G.1.2) L hy hS
   (HTE.anyW M V O X r f _ _ w (N.set L) U G.2)
 | .free i r,0,F,a,w,N,h,G=>by simp [ScE.okW] at G
 | .free i r,f+1,F,a,w,N,h,G=>by
  simp only [ScE.okW,bZ,Bool.not_eq_true'] at G;obtain ⟨hS,o,v,ho,hy,U⟩:=h;have Z:ops[i]? = some o:=by simpa using ho
  have L:i∈cZ .any ops F:=by simpa using G.1.1.2
  have aa:=dE G.1.1.1.2;exact JR (T:=S2) Z (bX ⟨M i aa,rfl⟩) G.1.1.1.1 (Region.noSelect_spec V) (fun c a w=>X o.dst v c a w) f F a w N (Region.free_spec Z G.1.2) L hy hS
   (HTE.anyW M V O X r f _ _ w (N.set L) U G.2)
 | .put i r,0,F,a,w,N,h,G=>by simp [ScE.okW] at G
 | .put i r,f+1,F,a,w,N,h,G=>by
  simp only [ScE.okW,bZ,beq_iff_eq] at G;obtain ⟨⟨h1,Y⟩,h3⟩:=G;refine ⟨fun e=>(by rw [Y] at e;cases e),fun j hj=>?_⟩;rw [Y] at hj;simp only [List.mem_singleton] at hj;subst hj;have L:j∈cZ .any ops F:=by rw [Y];simp
  exact wpOp_mono (fun a' w' h'=>⟨fun e=>(by rw [h1] at e;cases e),fun _ _=>h'.1,HTE.anyW M V O X r f _ a' w' (N.set L) h'.2 h3⟩) h
def Mg {P:Program} {n:Nat} {Q:Exit->Act->wD->Prop} {l:Sl} {w:wD} {X:Nat} {F:List Oper} (S S2:wD->Prop) (E wr:List Nat) (Y K:Nat) (s:ScE) (Z:P.follows .mixedOrders=true) (L:(Region.noSelect F.toArray&&(dW F.length K||Kk F.toArray K)&&ON F.toArray E wr Y&&ScE.okW F.toArray E wr K s F.length (eO F.length false))=true) (hQ:D3 Q)
 (h : ∀w1,Ext w w1->w1.heap=w.heap->Xl P n F.toArray Q S S2 s l w1):CW P n (.region X F.toArray true) Q l w:=by
 unfold CW;intro a ha;simp only [bZ] at L;have h2:=h w.drew (eU w).drew rfl;have O:DC F.toArray (eO F.length false):=fun k o _ G=>by
  exfalso;rcases cO k F.length with U|U
  . simp [U] at G
  . simp [dX,U] at G
 have M : ∀i,i<K->EX F.toArray K i:=by
  by_cases V:K<F.toArray.size
  . have G:=L.1.1.2;simp only [Bool.or_eq_true] at G;rcases G with G|G
    . have:=dE G;simp at V;omega
    . exact Fe G V
  . intro i hi N j o _ hj ho _;have aa:j<F.toArray.size:=(Array.getElem?_eq_some_iff.1 ho).1;omega
 refine wp_region_any Z (Mf (S:=S) (S2:=S2) (wr:=wr) (K:=K) _ _ _ _ ?_);have:=HTE.anyW M L.1.1.1 (fun i hE=>Me L.1.2 hE) hQ s F.length (eO F.length false) a w.drew O (h2 a ha) L.2;simpa using this
def Own.cut {w:wD} {b e sz n m cap:Nat} {a:oA} {cs us:lV} (h:Own w b e sz (.slice a n cap) n (cs++us)) (G:cs.length=m*sz) (O:m<=n):Own w b e sz (.slice a m cap) m cs:=by
 obtain ⟨Z,⟨F,L⟩|⟨g,M,cur,F,L,U,h5,V,X,Y⟩⟩:=h
 . obtain rfl:m=0:=by omega
   refine ⟨by simpa using G,bW ⟨?_,rfl⟩⟩;rw [<-F,L]
 . simp only [dI] at F;obtain ⟨rfl,-,rfl⟩:=F;refine ⟨by simpa using G,bX ⟨g,cap,cur,rfl,L,U,Ab,V,X,?_⟩⟩;have N:=congrArg (List.take (m*sz)) Y;rw [List.take_take,Nat.min_eq_left (Nat.mul_le_mul_right _ O),List.take_left' G] at N;exact N
def XU (l:List VD):(l.flatMap VD.cells).length=l.length*3:=by
 induction l with
 | nil=>rfl
 | cons v r h=>rw [List.flatMap_cons,cP,h];simp;omega
def Own.le {w:wD} {b e sz n cap:Nat} {a:oA} {cs:lV} (h:Own w b e sz (.slice a n cap) n cs):n<=cap:=by
 obtain ⟨N,⟨F,L⟩|⟨g,G,cur,F,L,O,M,U,V,X⟩⟩:=h
 . omega
 . simp only [dI] at F;obtain ⟨-,-,rfl⟩:=F;exact M
section
variable {ρ:Nat->Rl} {κ:Nat->Nat} {K:List (Int×Int)} {m sb:Nat} {st:Stp} {w:wD}
def StR (ρ:Nat->Rl) (sb:Nat) (st:Stp) (r:Int) (w:wD):Ending->wD->Prop:=fun e w'=> ∃ ρ' κ',e = .returned (.int .i64 r)/\Ro ρ ρ' w/\StoreAt ρ' κ' w' sb st/\Fr (fun k=>LU (ρ k)) w w'
def StR.ret {r:Int} {e:Ending} {w':wD} (h:StR ρ sb st r w e w') : ∃v,e = .returned v:=by
 obtain ⟨_,_,h,-⟩:=h;exact ⟨_,h⟩
def StR.same {r:Int} {w':wD} (h:StoreAt ρ κ w' sb st) (x:Ext w w'):StR ρ sb st r w (.returned (.int .i64 r)) w':=⟨ρ,κ,rfl,gD _ _,h,fE x⟩
def StoreAt.drop (h:StoreAt ρ κ w sb st) : ∃L M N ca O tp,Blk w sb [L,M,N,.slice ca st.calls.length O,tp]/\st.calls.length<=O /\
 ∀(l:List Frm) (f:Frm),st.calls=l++[f] -> ∀w',Fr (· = sb) w w'->Blk w' sb [L,M,N,.slice ca l.length O,tp]->StoreAt ρ κ w' sb { st with calls:=l }:=by
 obtain ⟨V,X,⟨L,M,cv,tb,cs,h2,h3,U,h5,h6⟩,h7⟩:=h;have Y : ∃a c,cv = .slice a st.calls.length c:=by
  rcases U.1.row with ⟨rfl,hn,-⟩|⟨g,cap,rfl,-⟩
  . exact ⟨none,0,by rw [hn]⟩
  . exact ⟨_,_,rfl⟩
 obtain ⟨ca,O,rfl⟩:=Y;refine ⟨L,M,_,ca,O,_,h2,U.1.le,fun l f hc w' x hb=>?_⟩;rw [hc] at h5;obtain ⟨Z,vv,vc,rfl,h8,-⟩:=(FramesOk.snoc l 1 f cs).1 h5;have aa:=FramesOk.len _ _ _ h8;have G : ∀ {r:Rl},r≠.store -> ∀k,k=sb->ρ k≠r:=fun n1 k F e=>by subst F;exact n1 (by rw [<-e,V])
 have h9:=U.1;rw [hc] at h9;rw [cP,List.length_singleton] at h9;refine ⟨V,X.mv x,⟨L,M,_,tb,Z,hb,h3.move x (fun k F=>⟨G AR k F,G AR k F⟩) (gD _ _) (fun _ _=>rfl),⟨?_,fun k F=>U.2 k ?_⟩,gI x (gD _ _) _ _ _ h8 (fun k F i _ _=>⟨G AR k F,G AR k F⟩) (fun _ _ _ _=>rfl),h6.move x (fun k F=>⟨G AR k F,G AR k F,G AR k F⟩) (gD _ _)⟩,fun c xs hx=>(h7 c xs hx).move x (fun k F=>⟨G AR k F,G AR k F⟩) (gD _ _) rfl⟩
 . exact (h9.cut (m:=l.length) (by rw [aa]) Ab).fr x (fun k F e=>by
    subst e;have:=U.2 k (by cases ca<;>exact F);rw [V] at this;cases this)
 . cases ca<;>exact F
def XV (hw:st.WF K m) (w:wD) (h:StoreAt ρ κ w sb st) :
 Calls prog 156 #[.pointer (some ⟨sb,0,none⟩)] w (StR ρ sb (st.leaves).2 (st.leaves).1 w):=by
 have X:=eU w;have ap:=hw.nc;have Z:=h.role;obtain ⟨bv,bc,aq,ca,cc,tp,O,ar,L⟩:=h.drop;rcases List.eq_nil_or_concat st.calls with U|⟨l,f,U⟩
 . have e:st.leaves=(20,st):=by unfold gG;rw [AG (bW U)]
   rw [e];have hn:st.calls.length=0:=by rw [U];rfl
   clear L;generalize st.calls.length=n at *;subst hn;refine Ac func156 ntmps156 rfl rfl ?_;refine eK ?_;refine C1 (A2 Ad rfl rfl) ?_;refine eK ?_;refine xR ?_;exact StR.same Ae X
 . rw [List.concat_eq_append] at U;have N:st.cur=f:=by unfold Stp.cur;rw [U];simp
   obtain ⟨fb,fo,pre,post,T,vv,vc,M,-,V,hf,-⟩:=h.open;have G:=V.blk;have HC:=bU (fun w1 h=>E5 fb fo st.calls.length sb Ab w1 h);have hn:st.calls.length=l.length+1:=by rw [U];simp
   have af:st.calls≠[]:=by rw [U];simp
   rw [N] at G;clear hf V;have aa:=bU (L l f U);clear L;have ag:((st.calls.length:Int)-1)=(l.length:Int):=by omega
   have ah:l.length<=cc:=by omega
   by_cases h0:0<f.locals
   . have e:st.leaves=(20,st):=by unfold gG;rw [AG (bX (by rw [N];exact h0))]
     rw [e];clear aa;refine Ac func156 ntmps156 rfl rfl ?_;refine eK ?_;refine C1 (A2 Ad rfl rfl) ?_;refine eK ?_;refine cC rfl (HC.out _ Ae) ?_;rintro _ au ⟨⟨⟩,ai⟩;revert h X O M G;refine eY ai ?_;intro av h X O M G;refine eK ?_;refine C1 (Pw G) ?_;refine eK ?_;refine xR ?_;exact StR.same Ae X
   . have e:st.leaves=(0,{ st with calls:=l }):=by unfold gG;rw [As (by rw [N];intro h;rcases h with h|h;exact af h;exact h0 h),U];simp
     rw [e];have F:=fC (· = sb) w;refine Ac func156 ntmps156 rfl rfl ?_;refine eK ?_;refine C1 (A2 Ad rfl rfl) ?_;refine eK ?_;refine cC rfl (HC.out _ Ae) ?_;rintro _ ab ⟨⟨⟩,aj⟩;revert h X O M G F;refine eY aj ?_;intro aw h X O M G F;refine eK ?_;refine C1 (Pw G) ?_;refine eK ?_;refine Ar (fun wz=>Ext ab wz) 12 (.pure 0 (.pure 1 (.pure 2 (.pure 3 (.pure 4 (.pure 5 (.pure 6 (.pure 7 (.pure 8 (.pure 9 (.pure 10 (.pure 11 .tail)))))))))))) mixed A9 (Aa Ah) ?_;intro ak ac _;have Y:(fun wz=>Ext ab wz) ak:=ac;simp only at Y;have ax:=h;have am:=O;have al:=M;have ae:=G;revert h X O M G F;refine eY ac ?_;intro ay h X O M G F;refine ⟨Y,?_⟩;refine eT ?_;refine Tq rfl (Bq rfl rfl (dA _ Ab)) (Tq rfl (Ei Ad rfl rfl rfl rfl ag ah) ?_);refine At rfl ?_;refine eK ?_;refine eV [_] [_,_,_,_,_] O ?_;intro az an ad ao;clear O h G;have F:=F.fr ad Ab;refine eK ?_;refine xR ?_;exact ⟨ρ,κ,rfl,gD _ _,aa.out _ F Ae,F.weaken (fun k hk=>by subst hk;rw [Z];trivial)⟩
def XW (hw:st.WF K m) (hm:m<=1000000) (s:List UInt8) (x:Int) (w:World) (h:StoreAt ρ κ w sb st) :
 Calls prog 132 #[.pointer (some ⟨sb,0,none⟩),str s,.int .i64 x] w (StR ρ sb (st.closes s x).2 (st.closes s x).1 w):=by
 have X:=eU w;have dl:=hw.nc;have dm:=hw.curm;have be:=hw.cur;have bm:=be.len;have bn:=be.loc;obtain ⟨fb,fo,pre,post,T,vv,vc,aa,a7,G,hf,aj⟩:=h.open;have HC:=bU (fun w1 h=>E5 fb fo st.calls.length sb Ab w1 h)
 rcases List.eq_nil_or_concat st.cur.vars with hv|⟨vs,v,hv⟩
 . have h0:st.cur.locals=0:=by rw [hv] at bn;simpa using bn
   have e:st.closes s x=(6,st):=by unfold Stp.closes;simp only;rw [AG (bW h0)]
   rw [e];obtain ⟨av,cv,rfl,bf⟩:=Hj (S:=fun _=>True) hf.v.1 (fun _ _=>trivial);have O:=G.blk;rw [h0] at O;clear hf G aj bf;refine Ac func132 ntmps132 rfl rfl ?_
   refine cS (C1 Pa (cT (Ai (cS (C1 Mv (C1 (A2 Ad rfl rfl) (cT (BD rfl (Am (Ag (cS ?_)))))))))));refine C1 Mv ?_;refine cC rfl (HC.out _ Ae) ?_;rintro _ w2 ⟨⟨⟩,x1⟩;have z3:=x1.size;revert h X aa O;refine eE x1 ?_;intro h X aa O;clear x1;refine C1 Pa (cN (C1 Mv (C1 Pn (C1 Pg (C1 (TA O) (C1 Pz ?_))))));refine C1 (Bq rfl rfl (dA _ Ab)) ?_;refine C1 Pa (cT (Ai (cS (C1 Mv (C1 Pn (C1 Pf (C1 (Pw O) (C1 V1 (C1 Mv (Vh (Vh ?_)))))))))));refine Vh (Vh (Vh (Vh (Vh (Vh (Vh (Vh (C1 Y3 (cT (Cb rfl (cS ?_)))))))))));refine C1 Pa (cT (AN (Ao (AM rfl rfl ?_))))
   exact StR.same Ae X
 rw [List.concat_eq_append] at hv
 have bg:st.cur.vars.length=vs.length+1:=by rw [hv];simp
 obtain ⟨cs,c,bh⟩ : ∃cs c,st.cur.cells=cs++[c]:=by
  rcases List.eq_nil_or_concat st.cur.cells with h'|⟨cs,c,h'⟩
  . rw [h',bg] at bm
    simp at bm
  . exact ⟨cs,c,by rw [h',List.concat_eq_append]⟩
 have bi:st.cur.cells.length=vs.length+1:=by omega
 have a8:cs.length=vs.length:=by rw [bh] at bi;simpa using bi
 have bj:st.cur.vars[vs.length]? = some v:=by rw [hv];simp
 have a9:st.cur.cells[vs.length]? = some c:=by rw [bh,cW Ab];simp [a8]
 have b2:c<st.heap.length:=by rw [hw.len];exact be.lt (dL a9)
 have bk:=hw.cell c _ (be.kind _ _ _ bj a9);obtain ⟨dn,vi,U,bv⟩:=h.cells _ _ (E6 b2);obtain ⟨ai,ci,rfl⟩:=bv.1.shape
 have e:st.closes s x=if st.cur.locals=0\/v.name≠s then (6,st) else if v.kind=1/\(st.items c).getD 0 0≠x\/v.kind=3/\0<(st.items c).length then (16,st) else (0,st.setCur ⟨vs,cs,st.cur.locals-1⟩):=by
  unfold Stp.closes
  simp only;rw [bg,Nat.add_sub_cancel];rw [cB,bj,cB (l:=st.cur.cells),a9];simp only [Option.getD_some];rw [hv,bh]
  simp
 rw [e];clear e;obtain ⟨av,cv,rfl,bf⟩:=Hj (S:=fun _=>True) hf.v.1 (fun _ _=>trivial);obtain ⟨ac,cc,rfl,b3⟩:=Mb hf.c.1;obtain ⟨kb,ko,rfl,-,bo⟩:=bf.get (by intro e;rw [e] at hv;simp at hv);obtain ⟨gc,rfl,r1⟩:=b3.get a9;have r0:=bo _ _ bj;have rv:=hf.v.2;have rc:=hf.c.2;have Y:=hf.v.1;have Z:=hf.c.1;have lv:=Y.le;have lc:=Z.le;rw [bg] at Y lv;rw [bi] at Z lc;rw [hv,List.flatMap_append] at Y;rw [bh,List.map_append] at Z;replace Y:=Y.cut (m:=vs.length) (XU _) Ab;replace Z:=Z.cut (m:=vs.length) (by simp [a8]) Ab
 have hd : ∀k,(k:Nat)=fb->ρ k≠.vars st.calls.length/\ρ k≠.cels st.calls.length:=fun k N=>by
  subst N
  rcases a7 with h|h<;>rw [h]<;>exact ⟨AR,AR⟩
 have ak : ∀k,(cY (some ⟨kb,ko,none⟩) vs.length cv).ownBlock=some k -> ¬k=fb:=fun k N V=>(hd k V).1 (rv k N)
 have al : ∀k,(cY (some ⟨gc,0,none⟩) vs.length cc).ownBlock=some k -> ¬k=fb:=fun k N V=>(hd k V).2 (rc k N)
 have ce:=bU (aj ρ κ);have HF:=bU h.fresh;have ab:=bv.1.at;clear aj bf b3 bo bj a9 b2 bv hf;have F:=fC (· = fb) w;obtain ⟨vn,vk,vl⟩:=v
 unfold Ki at r1
 rw [bg] at G;rw [bi] at G;have O:=G.blk
 have hi:(((vs.length+1:Nat):Int)-1).toNat=vs.length:=by omega
 have a6:(((vs.length+1:Nat):Int)-1)=(vs.length:Int):=by omega
 have bw:vs.length<=cv:=by omega
 have bx:vs.length<=cc:=by omega
 replace r0:Row w ⟨kb,ko+(((vs.length+1:Nat):Int)-1).toNat*3,none⟩ [str vn,.int .u8 vk,.int .i64 vl]:=by rw [hi];exact r0
 replace r1:Row w ⟨gc,0+(((vs.length+1:Nat):Int)-1).toNat*1,none⟩ [.pointer (some ⟨κ c,0,none⟩)]:=by rw [hi];exact r1
 simp only at bk ⊢
 by_cases h6:st.cur.locals=0\/vn≠s
 . rw [AG h6];clear G Y Z r1 U F
   generalize hL:st.cur.locals=L at *
   refine Ac func132 ntmps132 rfl rfl ?_
   focus
    refine cS (C1 Pa (cT (Ai (cS (C1 Mv (C1 (A2 Ad rfl rfl) (cT (BD rfl (Am (Ag (cS ?_)))))))))));refine C1 Mv ?_;refine cC rfl (HC.out _ Ae) ?_;rintro _ dp ⟨⟨⟩,bz⟩;have dq:=bz.size;revert h X aa ab r0 O;refine eE bz ?_;intro h X aa ab r0 O;clear bz;refine C1 Pa (cN (C1 Mv (C1 Pn (C1 Pg (C1 (TA O) (C1 Pz ?_))))));refine C1 (Bq rfl rfl (dA _ Ab)) ?_;refine C1 Pa (cT (Ai (cS (C1 Mv (C1 Pn (C1 Pf (C1 (Pw O) (C1 V1 (C1 Mv ?_)))))))));refine C6 rfl rfl rfl (fun cf=>?_) (fun cf=>?_);refine Gb (Gb (Gb (Gb (Gb (Gb (Gb (Gb (Gb (Gb (C1 Rw (cT ?_)))))))))));refine Cb rfl (cS (C1 Pa (cT (AN (Ao (AM rfl rfl ?_))))));rotate_left;refine Ga (C1 Mv (Ga (C1 Pn (Ga (C1 Pg (Ga (C1 (TA O) (Ga (C1 Mv (Ga (C1 Pi ?_)))))))))));refine Ga (C1 Pg (Ga (C1 (TA r0) (Ga (C1 Mv (Ga (C1 V9 (C1 Rk (cT ?_)))))))));refine BU rfl (fun cg=>?_) (fun cg=>?_);refine cS (C1 Pa (cT (AN (Ao (AM rfl rfl ?_)))));rotate_left;refine Am (Ag ?_);rotate_left
   . exact StR.same Ae X
   . exact StR.same Ae X
   . exact (h6.elim (fun h=>by omega) (fun h=>h Ae)).elim
 rw [As h6]
 have h7 : ¬st.cur.locals=0:=fun h=>h6 (bW h)
 have h8:vn=s:=Decidable.byContradiction fun h=>h6 (bX h)
 clear h6;subst h8;have ch:=bk.le
 have an : ∀w',Fr (· = fb) w w'->Win w' fb fo [.slice (some ⟨kb,ko,none⟩) vs.length cv,.slice (some ⟨gc,0,none⟩) vs.length cc,.int .i64 ((st.cur.locals:Int)-1)] pre post T->Own w' 0 66 3 (.slice (some ⟨kb,ko,none⟩) vs.length cv) vs.length (vs.flatMap VD.cells)->Own w' 0 150 1 (.slice (some ⟨gc,0,none⟩) vs.length cc) vs.length (cs.map (Ki κ))->StR ρ sb (st.setCur ⟨vs,cs,st.cur.locals-1⟩) 0 w (.returned (.int .i64 0)) w':=fun w' x h1 h2 h3=>by
  rw [show ((st.cur.locals:Int)-1)=((st.cur.locals-1:Nat):Int) by omega] at h1
  exact ⟨ρ,κ,rfl,gD _ _,ce.out w' ⟨vs,cs,st.cur.locals-1⟩ _ _ (gD _ _) (HF.out.mv x) (fun _ _ _ _=>rfl) (fun _ _=>rfl) (x.weaken (fun k N=>bW N)) h1 ⟨⟨h2,rv⟩,⟨by rw [a8];exact h3,rc⟩⟩,x.weaken (fun k N=>by subst N;rcases a7 with h|h<;>rw [h]<;>trivial)⟩
 replace an:=bU an
 by_cases h1:vk=1
 . have b4:(st.items c).length=1:=by rcases bk with ⟨-,h⟩|⟨h,-⟩|⟨h,-⟩<;>simp only at * <;> omega
   obtain ⟨gi,go,rfl,b5⟩:=ab.get (by intro e;rw [e] at b4;simp at b4);have r2:=IntsAt.at b5 (i:=(0:Int).toNat) Ab;clear ab b5 bk ch;simp only [show (0:Int).toNat=0 from rfl] at r2;clear O;subst h1
   generalize dr:(st.items c).getD 0 0=v0 at *
   generalize (st.items c).length=xn at *
   generalize κ c=cb at *
   refine Ac func132 ntmps132 rfl rfl ?_
   focus
    refine cS (C1 Pa (cT (Ai (cS (C1 Mv (C1 (A2 Ad rfl rfl) (cT (BD rfl (Am (Ag (cS ?_)))))))))));refine C1 Mv ?_;refine cC rfl (HC.out _ Ae) ?_;rintro _ bl ⟨⟨⟩,b0⟩;have ds:=b0.size;revert h X aa G Y Z F r0 r2 r1 U;refine eE b0 ?_;intro h X aa G Y Z F r0 r2 r1 U;clear b0;refine C1 Pa (cN (C1 Mv (C1 Pn (C1 Pg (DQ Ad rfl rfl rfl (fW G) rfl rfl (C1 Pz ?_))))));refine C1 (Bq rfl rfl (dA _ Ab)) ?_;refine C1 Pa (cT (Ai (cS (C1 Mv (C1 Pn (C1 Pf (DI Ad rfl rfl rfl (fW G) rfl rfl (C1 V1 (C1 Mv (EB (C1 Mv ?_)))))))))));refine EB (C1 Pn (EB (C1 Pg (EB (DQ Ad rfl rfl rfl (fW G) rfl rfl (EB (C1 Mv (EB (C1 Pi (EB (C1 Pg ?_)))))))))));refine EB (C1 (TA r0) (EB (C1 Mv (EB (C1 V9 (C1 Jq (cT (Fu rfl (not_not_intro rfl) (Am (Ag (cS ?_)))))))))));refine C1 Mv (C1 Pn (C1 Pf (DI Ad rfl rfl rfl (fW G) rfl rfl (C1 Mv (C1 Pi (C1 (TA r1) (C1 Pn (C1 Pg (C1 (Pl U) (C1 Pa (cT ?_)))))))))));refine Ai (cS (C1 Mv (C1 Pn (C1 Pg (DQ Ad rfl rfl rfl (fW G) rfl rfl (C1 Mv (C1 Pi (C1 Pf (C1 (Pw r0) (C1 V1 (C1 Mv ?_)))))))))));refine Rx (C1 Mv (Rx (C1 Pi (Rx (C1 (Pw r2) (Rx (C1 Mv (Rx (C1 V2 (C1 Y3 (C1 Mv ?_)))))))))));refine C6 rfl rfl rfl (fun cj=>?_) (fun cj=>?_);refine Gb (Gb (Gb (Gb (Gb (Gb (Gb (Gb (Gb (Gb (Lz rfl rfl rfl rfl (Lz rfl rfl rfl rfl ?_)))))))))))
    refine Lz rfl rfl rfl rfl (Gb (C1 Rw (cT (Cb rfl (cS (C1 Pa (cT (AN (Ao (AM rfl rfl ?_))))))))));rotate_left;refine Ga (C1 Mv (Ga (C1 Pn (Ga (C1 Pg (Ga (DQ Ad rfl rfl rfl (fW G) rfl rfl (Ga (C1 Mv (Ga (C1 Pi ?_)))))))))));refine Ga (C1 Pf (Ga (C1 (Pw r0) (Ga (C1 V1 (Ga (C1 Mv (Y5 (Y5 (Y5 (Ga ?_)))))))))));refine C1 ZS (C1 Rk (cT (BD rfl (Am (Ag (Ai ?_))))));refine Mg (fun wz=>Ext bl wz) (fun wz=>Fr (fun x=>x=fb) bl wz) [0,2,3,4,5,6,7,8,9,10,11,14,15] [16,17,18,19] 16 17 (.pure 0 (.free 1 (.pure 2 (.pure 3 (.pure 4 (.pure 5 (.pure 6 (.pure 7 (.pure 8 (.pure 9 (.pure 10 (.pure 11 (.free 12 (.free 13 (.pure 14 (.pure 15 (.put 16 (.tail 17)))))))))))))))))) mixed A9 (Aa Ah) ?_;intro b6 ba _;have bp:(fun wz=>Ext bl wz) b6:=ba;simp only at bp;have a4:(fun wz=>Fr (fun x=>x=fb) bl wz) b6:=fE ba;simp only at a4;have bb:=h;have ad:=aa;have M:=G;have ao:=Y;have ap:=Z;have aq:=r0;have b7:=r2;have ar:=r1;have ae:=U;have dt:=ba.size;revert h X aa G Y Z F r0 r2 r1 U;refine eE ba ?_;intro h X aa G Y Z F r0 r2 r1 U;clear ba;refine Ap Ae rfl (AL rfl) rfl ?_;refine BI Ae rfl (AL rfl) rfl ?_;refine Ap Ae rfl (AL rfl) rfl ?_;refine Ap Ae rfl (Bc rfl) rfl ?_
    refine Ap Ae rfl (BN Ad rfl rfl rfl) rfl ?_;refine Ap Ae rfl (An Ad rfl rfl rfl (fun wz hz=>fV (fL (fW M) hz) rfl)) rfl ?_;refine Ap Ae rfl (AL rfl) rfl ?_;refine Ap Ae rfl (Ei Ad rfl rfl rfl rfl a6 bw) rfl ?_;refine Ap Ae rfl (AL rfl) rfl ?_;refine Ap Ae rfl (Bc rfl) rfl ?_;refine Ap Ae rfl (AO Ad rfl rfl rfl) rfl ?_;refine Ap Ae rfl (An Ad rfl rfl rfl (fun wz hz=>Row.at (fL (fW M) hz) rfl)) rfl ?_;refine BI Ae rfl (AL rfl) rfl ?_;refine BI Ae rfl (Ei Ad rfl rfl rfl rfl a6 bx) rfl ?_;refine Ap Ae rfl (Bc rfl) rfl ?_;refine Ap Ae rfl (BN Ad rfl rfl rfl) rfl ?_;refine EI rfl (FA fb fo [_,_,_] Ad rfl rfl rfl rfl rfl rfl Ae rfl rfl) ?_;refine Cg ?_;rintro _ cm ⟨b8,⟨af,cn⟩⟩;have co:=af.size;replace a4:=a4.fr af Ab;clear h G;replace Y:=fX Y af (fun k N V=>ak k N V);replace Z:=fX Z af (fun k N V=>al k N V);replace F:=F.fr af Ab;clear r0 r2 r1 U af;refine ⟨Ae,?_⟩;clear bp bb ad M ao ap aq b7 ar ae a4;refine EH rfl (C1 Pn (C1 Pf ?_))
    refine Br (CK fb fo 1 [_,_,_] Ad rfl rfl rfl rfl rfl rfl Ae rfl rfl) ?_;refine Cg ?_;rintro _ cp ⟨bq,⟨au,cq⟩⟩;have cr:=au.size;clear b8;replace Y:=fX Y au (fun k N V=>ak k N V);replace Z:=fX Z au (fun k N V=>al k N V);replace F:=F.fr au Ab;clear au;refine cN (C1 Mv (C1 Pn (C1 Pf (DI Ad rfl rfl rfl (fW bq) rfl rfl ?_))));refine C1 (Bq rfl rfl (dA _ Ab)) ?_;refine C1 Pn (C1 Pf ?_);refine Br (CK fb fo 2 [_,_,_] Ad rfl rfl rfl rfl rfl rfl Ae rfl rfl) ?_;refine Cg ?_;rintro _ ct ⟨cu,⟨aw,cw⟩⟩;have cx:=aw.size;clear bq;replace Y:=fX Y aw (fun k N V=>ak k N V);replace Z:=fX Z aw (fun k N V=>al k N V);replace F:=F.fr aw Ab;clear aw;refine cN (C1 Pa (cT (AN (AM rfl rfl ?_))));rotate_left
   . rw [AG (bW ⟨rfl,Ae⟩)]
     exact StR.same Ae X
   . rw [As (fun h=>by rcases h with ⟨-,h⟩|⟨h,-⟩;exact absurd h Ae;simp at h)]
     exact an.out _ F Ae Ae Ae
 . clear O
   generalize (st.items c).length=xn at *
   generalize κ c=cb at *
   refine Ac func132 ntmps132 rfl rfl ?_
   focus
    refine cS (C1 Pa (cT (Ai (cS (C1 Mv (C1 (A2 Ad rfl rfl) (cT (BD rfl (Am (Ag (cS ?_)))))))))));refine C1 Mv ?_;refine cC rfl (HC.out _ Ae) ?_;rintro _ ax ⟨⟨⟩,b1⟩;have du:=b1.size;revert h X aa G Y Z ab F r0 r1 U;refine eE b1 ?_;intro h X aa G Y Z ab F r0 r1 U;clear b1;refine C1 Pa (cN (C1 Mv (C1 Pn (C1 Pg (DQ Ad rfl rfl rfl (fW G) rfl rfl (C1 Pz ?_))))));refine C1 (Bq rfl rfl (dA _ Ab)) ?_;refine C1 Pa (cT (Ai (cS (C1 Mv (C1 Pn (C1 Pf (DI Ad rfl rfl rfl (fW G) rfl rfl (C1 V1 (C1 Mv (EB (C1 Mv ?_)))))))))));refine EB (C1 Pn (EB (C1 Pg (EB (DQ Ad rfl rfl rfl (fW G) rfl rfl (EB (C1 Mv (EB (C1 Pi (EB (C1 Pg ?_)))))))))));refine EB (C1 (TA r0) (EB (C1 Mv (EB (C1 V9 (C1 Jq (cT (Fu rfl (not_not_intro rfl) (Am (Ag (cS ?_)))))))))));refine C1 Mv (C1 Pn (C1 Pf (DI Ad rfl rfl rfl (fW G) rfl rfl (C1 Mv (C1 Pi (C1 (TA r1) (C1 Pn (C1 Pg (C1 (Pl U) (C1 Pa (cT ?_)))))))))));refine Ai (cS (C1 Mv (C1 Pn (C1 Pg (DQ Ad rfl rfl rfl (fW G) rfl rfl (C1 Mv (C1 Pi (C1 Pf (C1 (Pw r0) (C1 V1 (C1 Mv ?_)))))))))));refine Ry (Ry (Ry (Ry (Ry (C1 Rk (C1 Mv (Bh rfl rfl rfl (rfl) (C1 Mv (Bh rfl rfl rfl (rfl) (C1 Pn (Bh rfl rfl rfl (rfl) ?_)))))))))));refine C1 Pg (Bh rfl rfl rfl (rfl) (DQ Ad rfl rfl rfl (fW G) rfl rfl (Bh rfl rfl rfl (rfl) (C1 Mv (Bh rfl rfl rfl (rfl) (C1 Pi (Bh rfl rfl rfl (rfl) (C1 Pf (Bh rfl rfl rfl (rfl) (C1 (Pw r0) (Bh rfl rfl rfl (rfl) ?_)))))))))))
    refine C1 V1 (Bh rfl rfl rfl (rfl) (C1 Mv ?_));refine C6 rfl rfl rfl (fun ck=>?_) (fun ck=>?_);refine Y4 (C1 Mv (Y4 (C1 Pz (Y4 (C1 V5 (Bh rfl rfl rfl (rfl) (C1 Rw (C1 (B0 rfl rfl rfl) (cT ?_)))))))));refine Ay rfl (fun cl=>?_) (fun cl=>?_);refine cS (C1 Pa (cT (AN (Ao (AM rfl rfl ?_)))));rotate_left;refine Am (Ag (Ai ?_));refine Mg (fun wz=>Ext ax wz) (fun wz=>Fr (fun x=>x=fb) ax wz) [0,2,3,4,5,6,7,8,9,10,11,14,15] [16,17,18,19] 16 17 (.pure 0 (.free 1 (.pure 2 (.pure 3 (.pure 4 (.pure 5 (.pure 6 (.pure 7 (.pure 8 (.pure 9 (.pure 10 (.pure 11 (.free 12 (.free 13 (.pure 14 (.pure 15 (.put 16 (.tail 17)))))))))))))))))) mixed A9 (Aa Ah) ?_;intro b9 bc _;have br:(fun wz=>Ext ax wz) b9:=bc;simp only at br;have a5:(fun wz=>Fr (fun x=>x=fb) ax wz) b9:=fE bc;simp only at a5;have bb:=h;have ad:=aa;have M:=G;have ao:=Y;have ap:=Z;have a3:=ab;have aq:=r0;have ar:=r1;have ae:=U;have cy:=bc.size;revert h X aa G Y Z ab F r0 r1 U;refine eE bc ?_;intro h X aa G Y Z ab F r0 r1 U;clear bc;refine Ap Ae rfl (AL rfl) rfl ?_;refine BI Ae rfl (AL rfl) rfl ?_;refine Ap Ae rfl (AL rfl) rfl ?_;refine Ap Ae rfl (Bc rfl) rfl ?_
    refine Ap Ae rfl (BN Ad rfl rfl rfl) rfl ?_;refine Ap Ae rfl (An Ad rfl rfl rfl (fun wz hz=>fV (fL (fW M) hz) rfl)) rfl ?_;refine Ap Ae rfl (AL rfl) rfl ?_;refine Ap Ae rfl (Ei Ad rfl rfl rfl rfl a6 bw) rfl ?_;refine Ap Ae rfl (AL rfl) rfl ?_;refine Ap Ae rfl (Bc rfl) rfl ?_;refine Ap Ae rfl (AO Ad rfl rfl rfl) rfl ?_;refine Ap Ae rfl (An Ad rfl rfl rfl (fun wz hz=>Row.at (fL (fW M) hz) rfl)) rfl ?_;refine BI Ae rfl (AL rfl) rfl ?_;refine BI Ae rfl (Ei Ad rfl rfl rfl rfl a6 bx) rfl ?_;refine Ap Ae rfl (Bc rfl) rfl ?_;refine Ap Ae rfl (BN Ad rfl rfl rfl) rfl ?_;refine EI rfl (FA fb fo [_,_,_] Ad rfl rfl rfl rfl rfl rfl Ae rfl rfl) ?_;refine Cg ?_;rintro _ cz ⟨ca,⟨ag,c0⟩⟩;have c1:=ag.size;replace a5:=a5.fr ag Ab;clear h G;replace Y:=fX Y ag (fun k N V=>ak k N V);replace Z:=fX Z ag (fun k N V=>al k N V);replace F:=F.fr ag Ab;clear r0 r1 U ag;refine ⟨Ae,?_⟩;clear br bb ad M ao ap a3 aq ar ae a5;refine EH rfl (C1 Pn (C1 Pf ?_))
    refine Br (CK fb fo 1 [_,_,_] Ad rfl rfl rfl rfl rfl rfl Ae rfl rfl) ?_;refine Cg ?_;rintro _ c2 ⟨bs,⟨ay,c3⟩⟩;have c4:=ay.size;clear ca;replace Y:=fX Y ay (fun k N V=>ak k N V);replace Z:=fX Z ay (fun k N V=>al k N V);replace F:=F.fr ay Ab;clear ay;refine cN (C1 Mv (C1 Pn (C1 Pf (DI Ad rfl rfl rfl (fW bs) rfl rfl ?_))));refine C1 (Bq rfl rfl (dA _ Ab)) ?_;refine C1 Pn (C1 Pf ?_);refine Br (CK fb fo 2 [_,_,_] Ad rfl rfl rfl rfl rfl rfl Ae rfl rfl) ?_;refine Cg ?_;rintro _ c5 ⟨c6,⟨az,c7⟩⟩;have c8:=az.size;clear bs;replace Y:=fX Y az (fun k N V=>ak k N V);replace Z:=fX Z az (fun k N V=>al k N V);replace F:=F.fr az Ab;clear az;refine cN (C1 Pa (cT (AN (AM rfl rfl ?_))));rotate_left;refine Ry (Ry (Ry (Bh rfl rfl rfl (rfl) (C1 Rk (C1 (B0 rfl rfl rfl) (cT (BD rfl (Am (Ag (Ai ?_))))))))));refine Mg (fun wz=>Ext ax wz) (fun wz=>Fr (fun x=>x=fb) ax wz) [0,2,3,4,5,6,7,8,9,10,11,14,15] [16,17,18,19] 16 17 (.pure 0 (.free 1 (.pure 2 (.pure 3 (.pure 4 (.pure 5 (.pure 6 (.pure 7 (.pure 8 (.pure 9 (.pure 10 (.pure 11 (.free 12 (.free 13 (.pure 14 (.pure 15 (.put 16 (.tail 17)))))))))))))))))) mixed A9 (Aa Ah) ?_;intro bt a0 _
    have bd:(fun wz=>Ext ax wz) bt:=a0;simp only at bd;have am:(fun wz=>Fr (fun x=>x=fb) ax wz) bt:=fE a0;simp only at am;have bb:=h;have ad:=aa;have M:=G;have ao:=Y;have ap:=Z;have a3:=ab;have aq:=r0;have ar:=r1;have ae:=U;have c9:=a0.size;revert h X aa G Y Z ab F r0 r1 U;refine eE a0 ?_;intro h X aa G Y Z ab F r0 r1 U;clear a0;refine Ap Ae rfl (AL rfl) rfl ?_;refine BI Ae rfl (AL rfl) rfl ?_;refine Ap Ae rfl (AL rfl) rfl ?_;refine Ap Ae rfl (Bc rfl) rfl ?_;refine Ap Ae rfl (BN Ad rfl rfl rfl) rfl ?_;refine Ap Ae rfl (An Ad rfl rfl rfl (fun wz hz=>fV (fL (fW M) hz) rfl)) rfl ?_;refine Ap Ae rfl (AL rfl) rfl ?_;refine Ap Ae rfl (Ei Ad rfl rfl rfl rfl a6 bw) rfl ?_;refine Ap Ae rfl (AL rfl) rfl ?_;refine Ap Ae rfl (Bc rfl) rfl ?_;refine Ap Ae rfl (AO Ad rfl rfl rfl) rfl ?_;refine Ap Ae rfl (An Ad rfl rfl rfl (fun wz hz=>Row.at (fL (fW M) hz) rfl)) rfl ?_;refine BI Ae rfl (AL rfl) rfl ?_;refine BI Ae rfl (Ei Ad rfl rfl rfl rfl a6 bx) rfl ?_
    refine Ap Ae rfl (Bc rfl) rfl ?_;refine Ap Ae rfl (BN Ad rfl rfl rfl) rfl ?_;refine EI rfl (FA fb fo [_,_,_] Ad rfl rfl rfl rfl rfl rfl Ae rfl rfl) ?_;refine Cg ?_;rintro _ da ⟨cd,⟨ah,db⟩⟩;have dc:=ah.size;replace am:=am.fr ah Ab;clear h G;replace Y:=fX Y ah (fun k N V=>ak k N V);replace Z:=fX Z ah (fun k N V=>al k N V);replace F:=F.fr ah Ab;clear r0 r1 U ah;refine ⟨Ae,?_⟩;clear bd bb ad M ao ap a3 aq ar ae am;refine EH rfl (C1 Pn (C1 Pf ?_));refine Br (CK fb fo 1 [_,_,_] Ad rfl rfl rfl rfl rfl rfl Ae rfl rfl) ?_;refine Cg ?_;rintro _ dd ⟨bu,⟨a1,de⟩⟩;have df:=a1.size;clear cd;replace Y:=fX Y a1 (fun k N V=>ak k N V);replace Z:=fX Z a1 (fun k N V=>al k N V);replace F:=F.fr a1 Ab;clear a1;refine cN (C1 Mv (C1 Pn (C1 Pf (DI Ad rfl rfl rfl (fW bu) rfl rfl ?_))));refine C1 (Bq rfl rfl (dA _ Ab)) ?_;refine C1 Pn (C1 Pf ?_);refine Br (CK fb fo 2 [_,_,_] Ad rfl rfl rfl rfl rfl rfl Ae rfl rfl) ?_;refine Cg ?_;rintro _ dg ⟨dh,⟨a2,di⟩⟩;have dk:=a2.size;clear bu;replace Y:=fX Y a2 (fun k N V=>ak k N V);replace Z:=fX Z a2 (fun k N V=>al k N V)
    replace F:=F.fr a2 Ab;clear a2;refine cN (C1 Pa (cT (AN (AM rfl rfl ?_))));rotate_left
   . rw [AG (bX ⟨Ae,Ab⟩)]
     exact StR.same Ae X
   . rw [As (fun h=>by rcases h with ⟨h,-⟩|⟨-,h⟩;exact absurd h Ae;omega)]
     exact an.out _ F Ae Ae Ae
   . rw [As (fun h=>by rcases h with ⟨h,-⟩|⟨h,-⟩;exact absurd h Ae;exact absurd h Ae)]
     exact an.out _ F Ae Ae Ae
end
section
variable {ρ:Nat->Rl} {κ:Nat->Nat} {K:List (Int×Int)} {m sb:Nat} {st:Stp} {w:wD}
def StoreAt.newCell (h:StoreAt ρ κ w sb st) {xs:List Int} (G:CellAt ρ κ w st.heap.length xs):StoreAt ρ κ w sb { st with heap:=st.heap++[xs] }:=by
 obtain ⟨L,M,N,O⟩:=h;refine ⟨L,M,N,fun c ys F=>?_⟩;simp only at F;rcases Nat.lt_trichotomy c st.heap.length with h|h|h
 . rw [cK h] at F;exact O c ys F
 . subst h;rw [cW (cH _)] at F;simp only [Nat.sub_self,dF,cE] at F;subst F;exact G
 . rw [cI (by simp;omega)] at F;cases F
def KY (st:Stp) (f:Frm):(st.setCur f).heap=st.heap:=by
 unfold fU;split<;>rfl
def Stp.WF.cells_lt (h:st.WF K m) {f:Frm} (F:f∈st.base::st.calls) {c:Nat} (G:c∈f.cells):c<st.heap.length:=by
 rw [h.len];exact (h.all' f F).lt G
def VU {L Y:Nat} {pre post:lV} {T:TypeId} {vv vc:Value} {xs:List Int} {v:VD} {κ':Nat->Nat} {ρ':Nat->Rl} {w':wD} {cb:Nat} (hw:st.WF K m) (F:P1 ρ κ w sb st L Y pre post T) (G:ρ L = .store\/ρ L = .calls) (Z : ∀c,c≠st.heap.length->κ' c=κ c) (M:κ' st.heap.length=cb) (hr:Ro ρ ρ' w) (V:Fresh ρ' w') (x:Fr (FB ρ st.calls.length L) w w')
 (N:Win w' L Y [vv,vc,.int .i64 ((st.cur.locals:Int)+1)] pre post T) (O:FrameOk ρ' κ' w' st.calls.length ⟨st.cur.vars++[v],st.cur.cells++[st.heap.length],st.cur.locals⟩ vv vc) (X:ρ' cb = .cell st.heap.length) (U : ∃u,Blk w' cb [u]/\OwnR ρ' (.items st.heap.length) w' u xs) :
 StR ρ sb { st.setCur ⟨st.cur.vars++[v],st.cur.cells++[st.heap.length],st.cur.locals+1⟩ with heap:=st.heap++[xs] } 0 w (.returned (.int .i64 0)) w':=by
 have h1:=F ρ' κ' w' ⟨st.cur.vars++[v],st.cur.cells++[st.heap.length],st.cur.locals+1⟩ vv vc hr V (fun f O c U=>Z c (by have:=hw.cells_lt O U;omega)) (fun c U=>Z c Ab) x (by simpa using N) ⟨O.v,O.c⟩;have h2:=h1.newCell (xs:=xs) (by
  rw [KY];exact ⟨by rw [M];exact X,by rw [M];exact U⟩)
 rw [KY] at h2;refine ⟨ρ',κ',rfl,hr,h2,x.weaken (fun k hk=>?_)⟩;rcases hk with rfl|h|h
 . rcases G with h|h<;>rw [h]<;>trivial
 . rw [h];trivial
 . rw [h];trivial
def Gc (ρ:Nat->Rl) (n cb ib:Nat):Nat->Rl:=fun b=>if b=cb then .cell n else if b=ib then .items n else ρ b
def Pj (κ:Nat->Nat) (n cb:Nat):Nat->Nat:=fun c=>if c=n then cb else κ c
def Qt {n j L:Nat} {f:Frm} {vv vc:Value} (Y:FrameOk ρ κ w j f vv vc) (O:Fresh ρ w) (U:L<w.heap.size) (N:ρ L = .store\/ρ L = .calls) (V : ∀c∈f.cells,c≠n) (w1:wD) (cb F:Nat) (X:Ext w w1) (Z:w.heap.size<=cb) (aa:w.heap.size<=F) (h4:cb<w1.heap.size) (h5:F<w1.heap.size) :
 FrameOk (Gc ρ n cb F) (Pj κ n cb) w1 j f vv vc/\(Gc ρ n cb F L≠.vars j/\Gc ρ n cb F L≠.cels j)/\Fresh (Gc ρ n cb F) w1/\(∀k,FB (Gc ρ n cb F) j L k->FB ρ j L k\/w.heap.size<=k) /\ ¬FB (Gc ρ n cb F) j L cb /\ ¬FB (Gc ρ n cb F) j L F:=by
 have hs:=X.size;have e : ∀b,b<w.heap.size->Gc ρ n cb F b=ρ b:=fun b hb=>by unfold Gc;rw [As Ab,As Ab]
 have e1:Gc ρ n cb F cb = .cell n:=by unfold Gc;rw [AG rfl]
 have M:Gc ρ n cb F F = .cell n\/Gc ρ n cb F F = .items n:=by
  unfold Gc;by_cases h:F=cb
  . rw [AG h];exact bW rfl
  . rw [As h,AG rfl];exact bX rfl
 refine ⟨Y.move (Fr.none X) (fun _ h=>h.elim) e (fun c hc=>As (V c hc)),?_,fun b hb=>?_,fun k G=>?_,fun G=>?_,fun G=>?_⟩
 . rw [e _ U];rcases N with h|h<;>rw [h]<;>exact ⟨AR,AR⟩
 . unfold Gc;rw [As Ab,As Ab];exact O b Ab
 . rcases cO k w.heap.size with h|h
   . left;unfold FB at G ⊢;rw [e k h] at G;exact G
   . exact bX h
 . unfold FB at G;rw [e1] at G;rcases G with h|h|h
   . omega
   . cases h
   . cases h
 . unfold FB at G;rcases G with h|h|h
   . omega
   . rcases M with M|M<;>rw [M] at h<;>cases h
   . rcases M with M|M<;>rw [M] at h<;>cases h
def Zm (hw:st.WF K m) (hm:m<=100000) (v:VD) (hk:v.kind=1\/v.kind=3) (hl:v.len=0) (x:Int) (w:wD) (h:StoreAt ρ κ w sb st) :
 Calls prog 131 #[.pointer (some ⟨sb,0,none⟩),v.val,.int .i64 x] w (StR ρ sb (st.opens v x).2 (st.opens v x).1 w):=by
 have X:=eU w;have cn:=hw.nc;have co:=hw.curm;have ar:=hw.cur;have bt:=ar.len;have bu:=ar.loc;obtain ⟨fb,fo,pre,post,T,vv,vc,N,af,L,hf,aa⟩:=h.open;have HC:=bU (fun w1 h=>E5 fb fo st.calls.length sb Ab w1 h);obtain ⟨av,cv,rfl,M⟩:=Hj (S:=fun _=>True) hf.v.1 (fun _ _=>trivial);have hF:=fun w1 h1 h2=>Mc st.cur.vars Ab v.name (fun _=>True) av cv vc (.int .i64 st.cur.locals) fb fo w1 h1 h2
 obtain ⟨vn,vk,vl⟩:=v;simp only at hk hl hF;subst hl;change Calls prog _ #[_,.agg #[str vn,.int .u8 vk,.int .i64 0],_] w _;cases hi:BR vn st.cur.vars with
 | some i=>
  have e:st.opens ⟨vn,vk,0⟩ x=(22,st):=by unfold Stp.opens;rw [AG (by simp [hi])]
  rw [show C8 st.cur.vars vn=(i:Int) by unfold C8;rw [hi]] at hF;have hF:=bU hF;rw [e];have G:=L.blk;clear aa hf L ar;generalize st.cur.vars=vs at *;refine Ac func131 ntmps131 rfl rfl ?_
  focus
   refine cS (eB [_,_,_] ?_);intro b1 w2 h4 x5 p6 z7;revert h X N M G;refine eE x5 ?_;intro h X N M G;refine eK ?_;refine C1 (A2 Ad rfl rfl) ?_;refine eK ?_;refine C6 rfl rfl rfl (fun c8=>?_) (fun c8=>?_);refine eK ?_;refine cC rfl (HC.out _ Ae) ?_;rintro _ cp ⟨⟨⟩,x9⟩;revert h4 h X N M G;refine eY x9 ?_;intro cq h4 h X N M G;refine eK ?_;refine cC rfl (hF.out _ Ae Ae) ?_;rintro _ cr ⟨⟨⟩,bf⟩;revert h4 h X N M G;refine eY bf ?_;intro ct h4 h X N M G;refine eK ?_;refine xR ?_;rotate_left;refine eK ?_;refine cC rfl (HC.out _ Ae) ?_;rintro _ cu ⟨⟨⟩,bg⟩;revert h4 h X N M G;refine eY bg ?_;intro cw h4 h X N M G;refine eK ?_;refine cC rfl (hF.out _ Ae Ae) ?_;rintro _ cx ⟨⟨⟩,bh⟩;revert h4 h X N M G;refine eY bh ?_;intro z20 h4 h X N M G;refine eK ?_;refine xR ?_;rotate_left
  . exact StR.same Ae X
  . exact StR.same Ae X
 | none=>
  rw [show C8 st.cur.vars vn = -1 by unfold C8;rw [hi]] at hF;have hF:=bU hF;have e:st.opens ⟨vn,vk,0⟩ x=(0,{ st.setCur ⟨st.cur.vars++[⟨vn,vk,0⟩],st.cur.cells++[st.heap.length],st.cur.locals+1⟩ with heap:=st.heap++[if vk=1 then [x] else []] }):=by unfold Stp.opens;rw [As (by simp [hi])]
  rw [e];have ap:=bU (fun xs κ' ρ' w' vv vc cb=>VU (v:=⟨vn,vk,0⟩) (xs:=xs) (κ':=κ') (ρ':=ρ') (w':=w') (vv:=vv) (vc:=vc) (cb:=cb) hw aa af);have cy:=bU h.fresh;have bi:fb<w.heap.size:=L.1.blk.lt;have G:=L.blk;have F:=fC (FB ρ st.calls.length fb) w;have HA:=bU (fun w1 cb ib X bj bk h4 h5=>Qt (κ:=κ) (n:=st.heap.length) hf h.fresh bi af (fun c hc=>by have:=hw.cells_lt (IC st) hc;omega) w1 cb ib X bj bk h4 h5);clear aa h hf;rcases hk with rfl|rfl
  . refine Ac func131 ntmps131 rfl rfl ?_;refine cS (Lg rfl rfl rfl ?_);intro cz c0 au O;have bl:=au.ext;have c1:=au.pos;have c2:=au.size;revert X N M L G F;refine eE bl ?_;intro X N M L G F;refine eK ?_;refine C1 (A2 Ad rfl rfl) (cT (BD rfl (Am (Ag (Ai (cS (C1 Pf (C1 (Pl (TB.blk O)) (C1 V2 (C1 Mv (Y5 ?_)))))))))));refine Y5 (Y5 (C1 ZS (C1 Mv (Bh rfl rfl rfl (rfl) (C1 Pf (Bh rfl rfl rfl (rfl) (C1 (Pl (TB.blk O)) ?_)))))));refine eK ?_;refine cC rfl (HC.out _ Ae) ?_;rintro _ c3 ⟨⟨⟩,bm⟩;revert O X N M L G F;refine eY bm ?_;intro bv O X N M L G F;refine C1 Pa (cT (Ai (cS (C1 Mv (C1 Pg (C1 (Pl (TB.blk O)) (cC rfl (hF.out _ Ae Ae) ?_)))))));rintro _ bw ⟨⟨⟩,az⟩;revert O X N M L G F;refine eY az ?_;intro bx O X N M L G F;refine eK ?_;refine C1 (xB [_]) (Lg rfl rfl rfl ?_);intro Z bz ag ah;have a0:=ag.ext;have b0:=ag.pos;have b2:=ag.size;revert O X N M L G F;refine eE a0 ?_;intro O X N M L G F;refine C1 Pa (cT (Ai (cS (C1 Pf (C1 (Pl (TB.blk O)) ?_)))));refine eK ?_;refine AC (xS [_]) rfl ?_ aFh;rintro _ b3 ⟨aq,rfl,ai,a1⟩;have V:TB _ _ _ _:=a1;have a2:=ai.ext;have b4:=ai.pos;have b5:=ai.size;revert ah O X N M L G F;refine eE a2 ?_;intro ah O X N M L G F;refine eK ?_;refine Km [_] [_] Ad rfl rfl rfl rfl rfl rfl (TB.blk ah) rfl rfl ?_;intro a3 aj;have ab:=aj.blk;have ak:=aj.fr;have b6:=aj.size;have V:=V.fr ak Ab;revert O X;refine eF ak ?_;intro O X;clear M;revert L G F;refine eF ak ?_;intro L G F;refine cT ?_
    obtain ⟨k1,k2,k3,k4,k5,k6⟩:=HA.out a3 Z aq X Ab Ab Ab Ab;have al:=bU (fun w1 h1 h2 h3=>SY (κ:=Pj κ st.heap.length Z) st.cur ⟨vn,1,0⟩ st.heap.length fb fo pre post T (.slice av st.cur.vars.length cv) vc (.int .i64 st.cur.locals) w1 h1 h2 k2 h3 Ab Ab);have k3:=bU k3;rw [show Ki (Pj κ st.heap.length Z) st.heap.length = .pointer (some ⟨Z,0,none⟩) by unfold Ki Pj;rw [AG rfl]] at al;refine eK ?_;refine Cd [_,_,_] Ad rfl rfl rfl (TB.blk O) rfl rfl rfl (C1 Mv (eQ rfl (al.out _ k1 L k3.out) ?_));rintro _ c4 ⟨b7,⟨b8,⟨a4,⟨⟨⟩,⟨an,⟨bn,⟨bo,⟨a5,ao⟩⟩⟩⟩⟩⟩⟩⟩;have b9:=ao.size;have ab:=fB ab ao (k5);have V:=TB.fr V ao (k6);clear O L G;have F:=fJ F ao (k4);refine eK ?_;refine DI Ad rfl rfl rfl (fW bo) rfl rfl ?_;refine eK ?_;refine Br (CK fb fo 2 [_,_,_] Ad rfl rfl rfl rfl rfl rfl Ae rfl rfl) (Cg ?_);rintro _ a6 ⟨a7,⟨ad,ca⟩⟩;have cc:=ad.size;have a5:=FrameOk.fr a5 ad (fun k hk=>by (rw [show k=fb from hk,an fb Ab];exact k2));revert ab V;refine eF ad ?_;intro ab V;have F:=fJ F ad (fun k hk=>bW (bW hk));refine eK ?_;refine xR ?_;refine ap.out [x] (Pj κ st.heap.length Z) a4 a6 _ _ Z (fun c hc=>As hc) (AG rfl) (fun b hb=>?_) (fun b hb=>bn b Ab) F a7 Ae ?_ ⟨_,ab,OwnI.mk (xs:=[x]) (zs:=[]) (cQ _) (by exact V) RA,fun k hk=>?_⟩
    . rw [an b Ab];unfold Gc;rw [As Ab,As Ab]
    . rw [an _ Ab];exact AG rfl
    . obtain rfl:=cD (show some aq=some k from hk);rw [an _ Ab];unfold Gc;rw [As Ab,AG rfl]
  . refine Ac func131 ntmps131 rfl rfl ?_;refine cS (Lg rfl rfl rfl ?_);intro c5 c6 aw U;have bp:=aw.ext;have c7:=aw.pos;have c9:=aw.size;revert X N M L G F;refine eE bp ?_;intro X N M L G F;refine eK ?_;refine C1 (A2 Ad rfl rfl) (cT (BD rfl (Am (Ag (Ai (cS (C1 Pf (C1 (Pl (TB.blk U)) (C1 V2 (C1 Mv (Rx ?_)))))))))));refine C1 Pf (Rx (C1 (Pl (TB.blk U)) (Rx (C1 V2 (C1 Y3 (C1 Mv (aT (C1 Pf (aT (C1 (Pl (TB.blk U)) ?_))))))))));refine eK ?_;refine cC rfl (HC.out _ Ae) ?_;rintro _ da ⟨⟨⟩,bq⟩;revert U X N M L G F;refine eY bq ?_;intro cd U X N M L G F;refine C1 Pa (cT (Ai (cS (C1 Mv (C1 Pg (C1 (Pl (TB.blk U)) (cC rfl (hF.out _ Ae Ae) ?_)))))));rintro _ ce ⟨⟨⟩,a8⟩;revert U X N M L G F;refine eY a8 ?_;intro cf U X N M L G F;refine eK ?_;refine C1 (xB [_]) (Lg rfl rfl rfl ?_);intro Y a9 am ac;have ba:=am.ext;have cg:=am.pos;have ch:=am.size;revert U X N M L G F;refine eE ba ?_;intro U X N M L G F;refine C1 Pa (cT (Ai (cS (C1 Pf (C1 (Pl (TB.blk U)) (C1 V1 (cT (Np (Am (Ag ?_))))))))));obtain ⟨k1,k2,k3,k4,k5,k6⟩:=HA.out a9 Y Y X Ab Ab Ab Ab;have al:=bU (fun w1 h1 h2 h3=>SY (κ:=Pj κ st.heap.length Y) st.cur ⟨vn,3,0⟩ st.heap.length fb fo pre post T (.slice av st.cur.vars.length cv) vc (.int .i64 st.cur.locals) w1 h1 h2 k2 h3 Ab Ab);have k3:=bU k3;rw [show Ki (Pj κ st.heap.length Y) st.heap.length = .pointer (some ⟨Y,0,none⟩) by unfold Ki Pj;rw [AG rfl]] at al
    refine eK ?_;refine Cd [_,_,_] Ad rfl rfl rfl (TB.blk U) rfl rfl rfl (C1 Mv (eQ rfl (al.out _ k1 L k3.out) ?_));rintro _ db ⟨ci,⟨cj,⟨bb,⟨⟨⟩,⟨ax,⟨br,⟨bs,⟨bc,ay⟩⟩⟩⟩⟩⟩⟩⟩;have ck:=ay.size;have ac:=TB.fr ac ay (k5);clear U M L G;have F:=fJ F ay (k4);refine eK ?_;refine DI Ad rfl rfl rfl (fW bs) rfl rfl ?_;refine eK ?_;refine Br (CK fb fo 2 [_,_,_] Ad rfl rfl rfl rfl rfl rfl Ae rfl rfl) (Cg ?_);rintro _ bd ⟨be,⟨ae,cl⟩⟩;have cm:=ae.size;have bc:=FrameOk.fr bc ae (fun k hk=>by (rw [show k=fb from hk,ax fb Ab];exact k2));have ac:=ac.fr ae Ab;have F:=fJ F ae (fun k hk=>bW (bW hk));refine eK ?_;refine xR ?_;refine ap.out [] (Pj κ st.heap.length Y) bb bd _ _ Y (fun c hc=>As hc) (AG rfl) (fun b hb=>?_) (fun b hb=>br b Ab) F be Ae ?_ ⟨_,ac.blk,OwnI.nil,fun k hk=>(Option.some_ne_none _ hk.symm).elim⟩
    . rw [ax b Ab];unfold Gc;rw [As Ab,As Ab]
    . rw [ax _ Ab];exact AG rfl
end
section
variable {ρ ρ':Nat->Rl} {κ:Nat->Nat} {K:List (Int×Int)} {m sb:Nat} {st:Stp} {w w':wD} {S:nP}
def bQ (ρ:Nat->Rl) (n k:Nat):Prop:= ¬LU (ρ k)\/ρ k = .vars (n+1)\/ρ k = .cels (n+1)
def StoreAt.moveN (h:StoreAt ρ κ w sb st) (x:Fr S w w') (V : ∀k,S k->bQ ρ st.calls.length k) (L:Ro ρ ρ' w) (M:Fresh ρ' w'):StoreAt ρ' κ w' sb st:=by
 obtain ⟨N,-,⟨X,Y,Z,tb,cs,O,h3,h4,h5,h6⟩,h7⟩:=h;have U:=O.lt;have G : ∀ {r:Rl},LU r->r≠.vars (st.calls.length+1)->r≠.cels (st.calls.length+1) -> ∀k,S k->ρ k≠r:=fun L n1 n2 k F e=>by
  rcases V k F with h|h|h
  . exact h (by rw [e];exact L)
  . exact n1 (by rw [<-e,h])
  . exact n2 (by rw [<-e,h])
 exact ⟨by rw [L _ U,N],M,⟨X,Y,Z,tb,cs,O.fr x (fun hS=>G (r:=.store) trivial AR AR _ hS N),h3.move x (fun k F=>⟨G (by exact trivial) AR AR k F,G (by exact trivial) AR AR k F⟩) L (fun _ _=>rfl),h4.move x (G (by exact trivial) AR AR) L,
  gI x L _ _ _ h5 (fun k F i N O=>⟨G (by exact trivial) (by simp;omega) AR k F,G (by exact trivial) AR (by simp;omega) k F⟩) (fun _ _ _ _=>rfl),h6.move x (fun k F=>⟨G (by exact trivial) AR AR k F,G (by exact trivial) AR AR k F,G (by exact trivial) AR AR k F⟩) L⟩,
  fun c xs hc=>(h7 c xs hc).move x (fun k F=>⟨G (by exact trivial) AR AR k F,G (by exact trivial) AR AR k F⟩) L rfl⟩
def StoreAt.push (h:StoreAt ρ κ w sb st) : ∃O U V M tp cs,Blk w sb [O,U,V,M,tp]/\Own w 0 145 3 M st.calls.length cs/\(∀k,M.ownBlock=some k->ρ k = .calls) /\
 ∀(ρ':Nat->Rl) (w':wD) (f:Frm) (vv vc G:Value),Ro ρ ρ' w->Fresh ρ' w'->Fr (fun k=>k=sb\/M.ownBlock=some k) w w'->Blk w' sb [O,U,V,G,tp]->Own w' 0 145 3 G (st.calls.length+1) (cs++[vv,vc,.int .i64 f.locals])->(∀k,G.ownBlock=some k->ρ' k = .calls)->FrameOk ρ κ w (st.calls.length+1) f vv vc ->
  StoreAt ρ' κ w' sb { st with calls:=st.calls++[f] }:=by
 obtain ⟨h1,-,⟨O,U,M,tb,cs,h2,h3,X,h5,h6⟩,h7⟩:=h;have Y:=h2.lt;refine ⟨O,U,_,M,_,cs,h2,X.1,X.2,fun ρ' w' f vv vc G N Z x hb ho hc hf=>?_⟩;have L : ∀ {r:Rl},r≠.store->r≠.calls -> ∀k,(k=sb\/M.ownBlock=some k)->ρ k≠r:=fun n1 n2 k F e=>by
  rcases F with rfl|F
  . exact n1 (by rw [<-e,h1])
  . exact n2 (by rw [<-e,X.2 k F])
 refine ⟨by rw [N _ Y,h1],Z,⟨O,U,G,tb,cs++[vv,vc,.int .i64 f.locals],hb,h3.move x (fun k F=>⟨L AR AR k F,L AR AR k F⟩) N (fun _ _=>rfl),⟨by simpa using ho,hc⟩,(FramesOk.snoc st.calls 1 f _).2 ⟨cs,vv,vc,rfl,gI x N _ _ _ h5 (fun k F i _ _=>⟨L AR AR k F,L AR AR k F⟩) (fun _ _ _ _=>rfl),?_⟩,h6.move x (fun k F=>⟨L AR AR k F,L AR AR k F,L AR AR k F⟩) N⟩,fun c xs hx=>(h7 c xs hx).move x (fun k F=>⟨L AR AR k F,L AR AR k F⟩) N rfl⟩;rw [Nat.add_comm];exact hf.move x (fun k F=>⟨L AR AR k F,L AR AR k F⟩) N (fun _ _=>rfl)
def Jg {ps:List VD} {F:List lB} {e:Int} (L:ps.length=F.length) (h:(BS st.cur ps F).1=e) (G:e≠0):st.enters ps F=(e,st):=by
 unfold gJ;rw [As Ab,AG (by rw [h];exact G),h]
def Own.shape {b e sz n:Nat} {v:Value} {cs:lV} (h:Own w b e sz v n cs) : ∃a c,v = .slice a n c:=by
 rcases h.row with ⟨rfl,F,-⟩|⟨g,cap,rfl,-⟩
 . exact ⟨none,0,by rw [F]⟩
 . exact ⟨_,_,rfl⟩
def VV {e:TypeId} {v:Value} {n:Nat} {cs:lV} (h:Own w 0 e 1 v n cs) (F : ∀k,v.ownBlock=some k->S k) : ∃a c,v = .slice a n c/\Rows S w cs a:=by
 rcases h.row with ⟨rfl,G,L⟩|⟨g,cap,rfl,-,M,N⟩
 . exact ⟨none,0,by rw [G],bW L⟩
 . exact ⟨_,cap,rfl,bX ⟨g,0,rfl,F g M,N⟩⟩
def Rows.at1 {cs:lV} {a:oA} (h:Rows S w cs a) {i:Nat} {u:Value} (F:cs[i]? = some u) : ∃b o,a=some ⟨b,o,none⟩/\S b/\Row w ⟨b,o+i*1,none⟩ [u]:=by
 obtain ⟨b,o,N,O,U⟩:=h.get (by rintro rfl;simp at F);refine ⟨b,o,N,O,?_⟩;have M:=U.sub i 1;rw [Nat.mul_one];have G:i<cs.length:=by
  rcases cO i cs.length with L|L
  . exact L
  . rw [cI L] at F;cases F
 rw [dH G] at M;have:cs[i]=u:=by rw [bT G] at F;exact cD F
 simpa [this] using M
def XX (hw:st.WF K m) (hm:m<=100000) (ps:List VD) (qs:List (List UInt8)) (dy:ps.length<=100000) (cf : ∀k,S k -> ¬LU (ρ k)) (pa qa:Option Addr) (pc qc:Nat) (w:World) (h:StoreAt ρ κ w sb st) (Y:VDs S w ps pa) (Z:Rows S w (qs.map str) qa) :
 Calls prog 155 #[.pointer (some ⟨sb,0,none⟩),.slice pa ps.length pc,.slice qa qs.length qc] w (StR ρ sb (st.enters ps qs).2 (st.enters ps qs).1 w):=by
 have X:=eU w
 by_cases ak:ps.length≠qs.length
 . have e:st.enters ps qs=(7,st):=by unfold gJ;rw [AG ak]
   rw [e]
   generalize ps.length=n1 at *
   generalize qs.length=n2 at *
   clear Y Z;refine Ac func155 ntmps155 rfl rfl ?_
   refine eK ?_;refine C1 (A2 Ad rfl rfl) ?_;refine eK ?_;refine AM rfl rfl ?_
   exact StR.same Ae X
 have ak:ps.length=qs.length:=Decidable.not_not.1 ak;have dz:=hw.nc;have d0:=hw.curm;have cw:=hw.cur;have b6:=h.role;obtain ⟨fb,fo,pre,post,T,vv,vc,az,bb,G,hf,-⟩:=h.open;have HC:=bU (fun w1 h=>E5 fb fo st.calls.length sb Ab w1 h);obtain ⟨av,cv,rfl,M⟩:=Hj (S:=fun k=>ρ k = .vars st.calls.length/\k<w.heap.size) hf.v.1 (fun k O=>⟨hf.v.2 k O,(hf.v.1.blk O).2⟩);obtain ⟨ac,cc,rfl,N⟩:=VV (S:=fun k=>ρ k = .cels st.calls.length/\k<w.heap.size) hf.c.1 (fun k O=>⟨hf.c.2 k O,(hf.c.1.blk O).2⟩);have cx:fb<w.heap.size:=G.1.blk.lt;have L:=G.blk;replace Y:VDs (fun k=> ¬LU (ρ k)/\k<w.heap.size) w ps pa:=Y.lt2.wide (fun k O=>⟨cf k O.1,O.2⟩);replace Z:Rows (fun k=> ¬LU (ρ k)/\k<w.heap.size) w (qs.map str) qa:=Z.lt2.wide (fun k O=>⟨cf k O.1,O.2⟩);have HF:=bU (fun s w1 h1 h2=>Mc st.cur.vars Ab s (fun k=>ρ k = .vars st.calls.length/\k<w.heap.size) av cv (.slice ac st.cur.cells.length cc) (.int .i64 st.cur.locals) fb fo w1 h1 h2);have HS:=bU h;clear h hf G
 generalize hn:st.calls.length=n at *
 have F:=fC (fun k=>ρ k = .vars (n+1)\/ρ k = .cels (n+1)) w;refine Ac func155 ntmps155 rfl rfl ?_
 refine eK ?_;refine C1 (A2 Ad rfl rfl) ?_;refine eK ?_;refine Tx CY rfl rfl ?_;intro aa d5 bd be;have cg:=bd.ext;have d6:=bd.pos;have d7:=bd.size;clear bd;revert X L Y Z az M N F;refine eE cg ?_;intro X L Y Z az M N F;clear cg;refine eK ?_;refine cC rfl (HC.out _ Ae) ?_;rintro _ df ⟨⟨⟩,b7⟩;have dg:=b7.size;revert be X L Y Z az M N F;refine eE b7 ?_;intro be X L Y Z az M N F;clear b7;refine C1 Pa (cT (Ai (cS (C1 Mv (C1 Pz (C1 Mv (cT (Av ?_))))))))
 have af : ∀(e:Int) (ρ1:Nat->Rl) (w':World),Ro ρ ρ1 w->Fresh ρ1 w'->Fr (fun k=>ρ k = .vars (n+1)\/ρ k = .cels (n+1)) w w'->st.enters ps qs=(e,st)->StR ρ sb (st.enters ps qs).2 (st.enters ps qs).1 w (.returned (.int .i64 e)) w':=fun e ρ1 w' ae bb F h=>by
  rw [h]
  exact ⟨ρ1,κ,rfl,ae,HS.out.moveN F (fun k O=>by rw [hn];exact bX O) ae bb,F.weaken (fun k O=>by rcases O with h|h<;>rw [h]<;>trivial)⟩
 replace af:=bU af;clear az X;refine A1 (ι:=Nat) (fun j=>[(0,.pointer (some ⟨sb,0,none⟩)),(2,.slice qa qs.length qc),(7,.pointer (some ⟨aa,0,none⟩)),(8,.pointer (some ⟨fb,fo,none⟩)),(21,.slice pa ps.length pc),(22,.int .i64 ps.length),(23,.int .i64 j)])
  (fun j w'=> ∃(cs:List Nat) (ρj:Nat->Rl) (vv vc:Value),j<=ps.length/\Ro ρ ρj w/\Fresh ρj w'/\Win w' aa 0 [vv,vc,.int .i64 0] [] [] 145/\FrameOk ρj κ w' (n+1) ⟨ps.take j,cs,0⟩ vv vc/\Row w' ⟨fb,fo,none⟩ [.slice av st.cur.vars.length cv,.slice ac st.cur.cells.length cc,.int .i64 st.cur.locals] /\
   VDs (fun k=>ρ k = .vars n/\k<w.heap.size) w' st.cur.vars av/\Rows (fun k=>ρ k = .cels n/\k<w.heap.size) w' (st.cur.cells.map (Ki κ)) ac/\VDs (fun k=> ¬LU (ρ k)/\k<w.heap.size) w' ps pa/\Rows (fun k=> ¬LU (ρ k)/\k<w.heap.size) w' (qs.map str) qa /\
   Fr (fun k=>ρ k = .vars (n+1)\/ρ k = .cels (n+1)) w w'/\aa<w'.heap.size/\ρj aa = .none/\BS st.cur ps qs=((BS st.cur (ps.drop j) (qs.drop j)).1,cs++(BS st.cur (ps.drop j) (qs.drop j)).2)/\cs.length=j)
  (fun j=>ps.length-j) 0 sB
  ⟨[],ρ,.slice none 0 0,.slice none 0 0,cQ _,gD _ _,fun b hb=>HS.out.fresh b Ab,⟨be,rfl⟩,⟨⟨Own.nil,fun k O=>(Option.some_ne_none _ O.symm).elim⟩,⟨Own.nil,fun k O=>(Option.some_ne_none _ O.symm).elim⟩⟩,L,M,N,Y,Z,F,Ab,HS.out.fresh aa Ab,AR,rfl⟩ ?_
 clear be L M N Y Z F;rintro j w1 ⟨cs,ρj,cy,cz,hj,ae,bo,G,U,L,M,N,Y,Z,F,d8,b8,hb,c0⟩;have an:=bU bo;have c1:=F.size;clear bo
 by_cases a0:j<ps.length
 . obtain ⟨pb,po,rfl,d9,bp⟩:=Y.get (by intro e;rw [e] at a0;simp at a0);have r0:=bp j ps[j] (bT a0);obtain ⟨qb,qo,rfl,ea,r1⟩:=Z.at1 (i:=j) (u:=str qs[j]) (by rw [dZ,bT Ab];rfl)
   have c2:ps.take (j+1)=ps.take j++[ps[j]]:=by rw [List.take_add_one,bT a0];rfl
   rw [dH a0,dH (by omega:j<qs.length),BS] at hb
   have eb:(ps.take j).length=j:=by simp;omega
   clear bp
   generalize ps[j]=v at *
   generalize qs[j]=s at *
   obtain ⟨vn,vk,vl⟩:=v;replace r0:Row w1 ⟨pb,po+j*3,none⟩ [str vn,.int .u8 vk,.int .i64 vl]:=r0;have ao:=HF.out s
   cases hl:BR s st.cur.vars with
   | none=>
    rw [hl] at hb;simp only at hb;rw [show C8 st.cur.vars s = -1 by unfold C8;rw [hl]] at ao;replace ao:=bU ao;have he:=Jg (st:=st) (e:=6) ak (by rw [hb]) AY
    refine eK ?_;refine eA [_,_,_] ?_;intro ec ed ch ci ee ef;revert G U L M N F Y Z r1 r0;refine eE ci ?_;intro G U L M N F Y Z r1 r0;clear ci;refine C1 Pa (eS [_,_,_] ch ?_);intro eg bq a1 dh;clear ch;replace G:=G.fr a1 Ab;clear U;revert L M N F Y Z r1 r0;refine eF a1 ?_;intro L M N F Y Z r1 r0;clear a1;refine eK ?_;refine cC rfl (ao.out _ Ae Ae) ?_;rintro _ di ⟨⟨⟩,a2⟩;have dk:=a2.size;revert bq G L M N F Y Z r1 r0;refine eE a2 ?_;intro bq G L M N F Y Z r1 r0;clear a2;refine eK ?_;refine AM rfl rfl ?_
    exact af.out 6 ρj _ ae (fun b hb=>an.out b Ab) F he
   | some i=>
    obtain ⟨u,hu,-⟩:=Dx hl
    have c3:i<st.cur.cells.length:=by rw [<-cw.len];exact Ef hl
    have hc:=bT c3;rw [hl] at hb;simp only at hb;rw [show st.cur.vars.getD i ⟨[],0,0⟩=u by rw [cB,hu];rfl,show st.cur.cells.getD i 0=st.cur.cells[i] by rw [cB,hc];rfl] at hb;rw [show C8 st.cur.vars s=(i:Int) by unfold C8;rw [hl]] at ao;replace ao:=bU ao;obtain ⟨vb,vo,rfl,eh,cj⟩:=M.get (by intro e;rw [e] at hu;simp at hu);have r2:=cj i u hu;obtain ⟨cb,co,rfl,ei,r3⟩:=N.at1 (i:=i) (u:=Ki κ st.cur.cells[i]) (by rw [dZ,hc];rfl);have ej:=Ef hl;obtain ⟨un,uk,ul⟩:=u;replace r2:Row w1 ⟨vb,vo+i*3,none⟩ [str un,.int .u8 uk,.int .i64 ul]:=r2
    generalize st.cur.cells[i]=c at *
    unfold Ki at r3
    clear cj hu hc;dsimp only at hb
    have bf : ∀b,b<w.heap.size->ρ b≠.vars (n+1)->ρ b≠.cels (n+1) -> ¬FB ρj (n+1) aa b:=fun b h1 h2 h3 O=>by
     rcases O with rfl|O|O
     . omega
     . rw [ae b h1] at O
       exact h2 O
     . rw [ae b h1] at O
       exact h3 O
    have s1 : ∀k,FB ρj (n+1) aa k->(ρ k = .vars (n+1)\/ρ k = .cels (n+1))\/w.heap.size<=k:=fun k O=>by
     rcases cO k w.heap.size with h|h
     . rcases O with rfl|O|O
       . omega
       . rw [ae k h] at O
         exact bW (bW O)
       . rw [ae k h] at O
         exact bW (bX O)
     . exact bX h
    have s2 : ¬FB ρj (n+1) aa fb:=bf fb cx (by rcases bb with h|h<;>rw [h]<;>simp) (by rcases bb with h|h<;>rw [h]<;>simp)
    have s3 : ∀b,(ρ b = .vars n/\b<w.heap.size) -> ¬FB ρj (n+1) aa b:=fun b h=>bf b h.2 (by rw [h.1];simp) (by rw [h.1];simp)
    have s4 : ∀b,(ρ b = .cels n/\b<w.heap.size) -> ¬FB ρj (n+1) aa b:=fun b h=>bf b h.2 (by rw [h.1];simp) (by rw [h.1];simp)
    have s5 : ∀b,(¬LU (ρ b)/\b<w.heap.size) -> ¬FB ρj (n+1) aa b:=fun b h=>bf b h.2 (fun e=>h.1 (by rw [e];trivial)) (fun e=>h.1 (by rw [e];trivial))
    have c4:ρj aa≠.vars (n+1)/\ρj aa≠.cels (n+1):=by rw [b8];exact ⟨AR,AR⟩
    have ck:=bU (fun w2 h1 h2 h3=>SY (κ:=κ) (j:=n+1) ⟨ps.take j,cs,0⟩ ⟨vn,vk,vl⟩ c aa 0 [] [] 145 cy cz (.int .i64 0) w2 h1 h2 c4 h3 (by simp only;omega) (by simp only;omega))
    unfold Ki VD.val at ck
    refine eK ?_;refine eA [_,_,_] ?_;intro ek el cl cm em en;revert G U F Y Z r1 r0 M N L r2 r3;refine eE cm ?_;intro G U F Y Z r1 r0 M N L r2 r3;clear cm;refine C1 Pa (eS [_,_,_] cl ?_);intro eo V au dl;clear cl;replace G:=G.fr au Ab;replace U:=FrameOk.fr U au (fun k O=>by (rw [show k=_ from O,an.out _ Ab];exact ⟨AR,AR⟩));revert F Y Z r1 r0 M N L r2 r3;refine eF au ?_;intro F Y Z r1 r0 M N L r2 r3;clear au;refine eK ?_;refine cC rfl (ao.out _ Ae Ae) ?_;rintro _ aw ⟨⟨⟩,a3⟩;have dm:=a3.size;revert V G U F Y Z r1 r0 M N L r2 r3;refine eE a3 ?_;intro V G U F Y Z r1 r0 M N L r2 r3;clear a3;refine C1 Pa (cT (Ai (cS (C1 Mv (C1 V3 (cT (Ds (Am (Ag (Ai ?_))))))))))
    by_cases bg:uk=vk
    . have c5 : ¬uk≠vk:=fun h=>h bg
      focus
       refine Ai (Ar (fun wz=>Ext aw wz) 22 (.pure 0 (.pure 1 (.pure 2 (.pure 3 (.pure 4 (.pure 5 (.pure 6 (.pure 7 (.pure 8 (.pure 9 (.pure 10 (.pure 11 (.pure 12 (.pure 13 (.pure 14 (.pure 15 (.pure 16 (.pure 17 (.pure 18 (.pure 19 (.pure 20 (.pure 21 .tail)))))))))))))))))))))) mixed A9 (Aa (Aa (Al (Aa (Aa (Al (Aa Ah))))))) ?_);intro b9 bh _;have ax:(fun wz=>Ext aw wz) b9:=bh;simp only at ax;have ai:=V;have aj:=G;have a4:=U;have br:=Y;have bs:=Z;have bt:=r1;have bu:=r0;have a5:=M;have a6:=N;have ab:=L;have ap:=r2;have a7:=r3;have ep:=bh.size;revert V G U F Y Z r1 r0 M N L r2 r3;refine eE bh ?_;intro V G U F Y Z r1 r0 M N L r2 r3;clear bh;refine ⟨ax,?_⟩;refine eT ?_;refine Tq rfl (An Ad rfl rfl rfl (fun wz hz=>fV (fL ab hz) rfl)) ?_;refine eT ?_;refine Tq rfl (Dr ap) ?_;refine eT ?_;refine Dm rfl rfl rfl rfl (GD Ae) (An Ad rfl rfl rfl (fun wz hz=>fV (fL ab hz) rfl)) rfl (Dm rfl rfl rfl rfl (GD Ae) (AL rfl) rfl (Dm rfl rfl rfl rfl (GD Ae) (Bf Ad rfl rfl rfl rfl Ab Ab) rfl (Dm rfl rfl rfl rfl (GD Ae) (AO Ad rfl rfl rfl) rfl (Dm rfl rfl rfl rfl (GD Ae) (An Ad rfl rfl rfl (fun wz hz=>Row.at (fL ap hz) rfl)) rfl (Dm rfl rfl rfl rfl (GD Ae) (AO Ad rfl rfl rfl) rfl (Dm rfl rfl rfl rfl (GD Ae) (An Ad rfl rfl rfl (fun wz hz=>fD (fH ai hz) rfl)) rfl (At rfl ?_)))))))
       refine eK ?_;refine BU rfl (fun c6=>?_) (fun c6=>?_);refine eK ?_;refine AM rfl rfl ?_;rotate_left;refine eK ?_;refine Ar (fun wz=>Ext b9 wz) 8 (.pure 0 (.pure 1 (.pure 2 (.pure 3 (.pure 4 (.pure 5 (.pure 6 (.pure 7 .tail)))))))) mixed A9 (Al (Aa (Aa (Al (Aa Ah))))) ?_;intro c7 bi _;have bw:(fun wz=>Ext b9 wz) c7:=bi;simp only at bw;have ai:=V;have aj:=G;have a4:=U;have br:=Y;have bs:=Z;have bt:=r1;have bu:=r0;have a5:=M;have a6:=N;have ab:=L;have ap:=r2;have a7:=r3;have er:=bi.size;revert ax V G U F Y Z r1 r0 M N L r2 r3;refine eE bi ?_;intro ax V G U F Y Z r1 r0 M N L r2 r3;clear bi;refine ⟨bw,?_⟩;refine Tq rfl (By [_,_,_] Ad rfl rfl rfl (fun wz hz=>(fH ai hz)) rfl rfl) ?_;refine eT ?_;refine Tq rfl (Dr ab) (Tq rfl Mv (Tq rfl Pi (Tq rfl (An Ad rfl rfl rfl (fun wz hz=>fV (fL a7 hz) rfl)) (At rfl (eQ rfl (ck.out _ Ae Ae (fun b hb=>an.out b Ab)) ?_)))));rintro _ dn ⟨ca,⟨cd,⟨ce,⟨⟨⟩,⟨bx,⟨dp,⟨dq,⟨dr,ag⟩⟩⟩⟩⟩⟩⟩⟩;have dt:=ag.size;clear V G U;replace F:=fJ F ag (s1);replace Y:=VDs.fr Y ag (s5);replace Z:=Rows.fr Z ag (s5);clear r1 r0;replace M:=VDs.fr M ag (s3)
       replace N:=Rows.fr N ag (s4);replace L:=fK L ag (s2);clear r2 r3 ag;refine Ak (Af (Ag (Aj (C1 V7 (C1 Mv (Ak ?_))))));rotate_left
      . exact af.out 7 ρj _ ae (fun b hb=>an.out b Ab) F (Jg (st:=st) (e:=7) ak (by rw [hb,AG (bX Ae)]) AY)
      . refine AI (j+1) sB ⟨cs++[c],ce,ca,cd,Ab,ae.trans bx Ab,Ae,Ae,by rw [c2];assumption,Ae,Ae,Ae,Ae,Ae,Ae,Ab,?_,?_,by simp [c0]⟩ Ab
        . rw [bx aa Ab,b8]
        . rw [hb,As (fun h=>by rcases h with h|h;exact h bg;exact absurd h (Decidable.not_not.2 Ae))]
          simp
    . have c5:uk≠vk:=bg;have he:=Jg (st:=st) (e:=7) ak (by rw [hb,AG (bW bg)]) AY
      refine Ai (Ar (fun wz=>Ext aw wz) 22 (.pure 0 (.pure 1 (.pure 2 (.pure 3 (.pure 4 (.pure 5 (.pure 6 (.pure 7 (.pure 8 (.pure 9 (.pure 10 (.pure 11 (.pure 12 (.pure 13 (.pure 14 (.pure 15 (.pure 16 (.pure 17 (.pure 18 (.pure 19 (.pure 20 (.pure 21 .tail)))))))))))))))))))))) mixed A9 (Aa (Aa (Al (Aa (Aa (Al (Aa Ah))))))) ?_);intro c8 bj _;have bz:(fun wz=>Ext aw wz) c8:=bj;simp only at bz;have ai:=V;have aj:=G;have a4:=U;have br:=Y;have bs:=Z;have bt:=r1;have bu:=r0;have a5:=M;have a6:=N;have ab:=L;have ap:=r2;have a7:=r3;have es:=bj.size;revert V G U F Y Z r1 r0 M N L r2 r3;refine eE bj ?_;intro V G U F Y Z r1 r0 M N L r2 r3;clear bj;refine ⟨bz,?_⟩;refine eT ?_;refine Tq rfl (An Ad rfl rfl rfl (fun wz hz=>fV (fL ab hz) rfl)) ?_;refine eT ?_;refine Tq rfl (Dr ap) ?_;refine eT ?_;refine At rfl ?_;refine eK ?_;refine AM rfl rfl ?_
      exact af.out 7 ρj _ ae (fun b hb=>an.out b Ab) F he
 . obtain rfl:j=ps.length:=by omega
   have hS:=HS.out.moveN F (fun k O=>by rw [hn];exact bX O) ae an.out
   have cn:BS st.cur ps qs=(0,cs):=by
    rw [hb,List.drop_length]
    simp [BS]
   have c9:ρj sb = .store:=hS.role;obtain ⟨bv,bc,et,eu,tp,ds,ad,am,bk,cp⟩:=hS.push;rw [hn] at am;rw [dB] at U;obtain ⟨aq,ar,rfl⟩:=am.shape;obtain ⟨xa,xc,rfl⟩:=U.v.1.shape;obtain ⟨ya,yc,rfl⟩:=U.c.1.shape
   have he:st.enters ps qs=if 100<=n then (19,st) else (0,{ st with calls:=st.calls++[⟨ps,cs,0⟩] }):=by
    unfold gJ
    rw [As Ab,As (by rw [cn];exact fun h=>h rfl),hn,cn]
   by_cases b0:100<=n
   . rw [AG b0] at he
     refine eK ?_;refine AM rfl rfl ?_
     exact af.out 19 ρj _ ae (fun b hb=>an.out b Ab) F he
   . rw [As b0] at he;rw [he];have F2:=fC (fun k=>k=sb\/(cY aq n ar).ownBlock=some k) w1;have da:=bU cp;have F1:=bU F;have ew:=ad.lt;have db:=bU U
     have d1 : ∀k,(cY aq n ar).ownBlock=some k -> ¬k=sb:=fun k O e=>by subst e;have:=bk k O;rw [c9] at this;cases this
     have d2 : ¬(cY aq n ar).ownBlock=some sb:=fun h=>d1 sb h rfl
     have d3 : ¬(cY aq n ar).ownBlock=some aa:=fun h=>by have:=bk aa h;rw [b8] at this;cases this
     have d4 : ∀k,(cY aq n ar).ownBlock=some k->k<w1.heap.size:=fun k O=>(am.blk O).2
     clear hS U M N Y Z L
     refine eK ?_;refine Ar (fun wz=>Fr ((fun k=>(cY aq n ar).ownBlock=some k)) w1 wz) 8 (.pure 0 (.pure 1 (.pure 2 (.pure 3 (.pure 4 (.pure 5 (.fork 6 (.fork 7 .tail .none) .none))))))) mixed A9 (Aa Ah) ?_;intro dc bl _;have ah:(fun wz=>Fr ((fun k=>(cY aq n ar).ownBlock=some k)) w1 wz) dc:=fE bl;simp only at ah;have bm:=ad;have dd:=am;have aj:=G;have ex:=bl.size;revert F ad am G F2;refine eE bl ?_;intro F ad am G F2;clear bl;refine ⟨ah,?_⟩;refine eT ?_;refine Tq rfl (An Ad rfl rfl rfl (fun wz hz=>fD (fB bm hz (by first|omega|(dsimp only;omega))) rfl)) (Tq rfl (Cl Ad rfl rfl rfl (fun wz hz=>(fK (fW aj) hz (by first|omega|(dsimp only;omega)))) rfl) ?_);refine Ax rfl (Dn [_,_,_] Ad CY rfl rfl rfl rfl rfl rfl rfl rfl rfl) rfl ?_ aFh Aw;rintro _ bn ⟨ey,rfl,a8,de⟩;clear de;have b1:=a8.blk;dsimp only at b1;have b2:=a8.ext;have du:=a8.pos;have dv:=a8.size;clear a8;revert ah F ad am G F2;refine eE b2 ?_;intro ah F ad am G F2;clear b2;refine ⟨ah,?_⟩;refine Ax rfl (FF Ad CY rfl rfl rfl rfl A9 rfl rfl rfl Ae (fN Ae) rfl rfl Ab Ab (cQ _)) rfl ?_ aFh Aw;rintro _ ay ⟨b3,⟨cu,⟨rfl,⟨b4,⟨al,⟨b5,cq⟩⟩⟩⟩⟩⟩
     have dw:=al.size;clear b1;replace ah:=fJ ah al (fun k O=>bW O);replace ad:=fB ad al (d2);clear am;replace G:=Win.fr G al (d3);replace F2:=fJ F2 al (fun k O=>bW (bX O));clear al;refine ⟨ah,?_⟩;refine At rfl ?_;refine eK ?_;refine eV [_] [_,_,_,_,_] ad ?_;intro cr ct a9 dx;clear ad;replace b4:=fX b4 a9 (fun k O hS=>by (obtain rfl:=cD (show some b3=some k from O);rcases b5 with h|h;exact d1 _ h hS;omega));clear G;replace F2:=fJ F2 a9 (fun k O=>bW (bW O));clear a9;refine eK ?_;refine AM rfl rfl ?_
     have ba:Ro ρj (Us ρj bn ay .calls) w1:=fun b hb=>VT ρj bn ay .calls b Ab
     refine ⟨Us ρj bn ay .calls,κ,rfl,ae.trans ba c1,da.out _ cr ⟨ps,cs,0⟩ _ _ _ ba (fun b hb=>NP (w:=bn) (w':=ay) (fun b hb=>an.out b Ab) Ab b Ab) F2 ct (by rw [hn];assumption) (fun k O=>?_) (by rw [hn];exact db.out),(F1.out.weaken (T:=fun k=>LU (ρ k)) (fun k O=>by rcases O with h|h<;>rw [h]<;>trivial)).fr F2 (fun k O=>?_)⟩
     . obtain rfl:=cD (show some b3=some k from O)
       rcases b5 with h|h
       . have:=d4 _ h;rw [ba _ this]
         exact bk _ h
       . exact SX ρj .calls h cq
     . rcases O with rfl|O
       . left;rw [b6];trivial
       . rcases cO k w.heap.size with h|h
         . left;rw [<-ae k h,bk k O];trivial
         . exact bX h
end
end Bk
