/- Texts that the proofs of GradebookPlays need. No condition. (Part 4 of 9.) -/
import Derived.Test.YteiiipaobncfgaaGreatPGpl3
set_option linter.unusedSimpArgs false
set_option linter.unusedVariables false
set_option linter.defProp false
set_option maxRecDepth 100000
set_option maxHeartbeats 4000000
open Go.Proofs.Tryz
open Or renaming inl->gA,inr->gB
open Go.Result renaming andThen->gF
open Go renaming Calls->gS
open Except renaming bind->gZ
open Go.Value renaming slice->iA,int->iV,ownBlock->kw
open Nat renaming blt->iC,ble->jW,beq->kk
open Go.Region renaming ready->iH,binds->jM
open List renaming replicate->iK,range->jQ
open Go.DataW renaming trod->iQ
open Go.Builtin renaming zeroCells->jI
open Go.Addr renaming add->jY
open Go.Oper renaming wp->km
open Array renaming replicate->kn
open Go.IntKind renaming wrap->kN
open Go.Sem renaming run->kV
namespace Bk
abbrev ni:=@OwnQ.nil
abbrev nx:=@OwnQ.fr
abbrev ny:=@Keeps.of_fr
abbrev nB:=@OwnQ.ge
abbrev nE:=@PathAt.fr
end Bk
open Bk.Nd renaming size->mF
open Bk.Value renaming one->mG
namespace Bk
open Go Go.RowKit Go.Proofs
attribute [local irreducible] Go.Calls
variable {l:List PD} {S:nP} {w:wD} {a:oA}
def OH (e:Int):Oh e<=1:=by unfold Oh;split<;>omega
def LQ (ps:List PD) (v:List VD) (s:lB) (m:Nat):∀(l:List Nd) (i:Nat),FG ps v s m i l<=l.length
 | [],_=>by simp [FG]
 | t::r,i=>by
  have:=OH (Pj ps v s m i t.name);have:=LQ ps v s m r (i+1);simp only [FG,gH];omega
mutual
def RU (ps:List PD):∀(t:Nd) (v:List VD),t.flt ps v<=t.size
 | .mk k n s l,v=>by
  have h1:=OH (CH ps v k s l.length);have h2:=LQ ps v s l.length l 0;have h3:=Co l;have h4:=J0 ps l v k s 0;simp only [Nd.flt,mF];split<;>omega
def J0 (ps:List PD):∀(l:List Nd) (v:List VD) (k:Int) (s:lB) (i:Nat),C6 ps v k s i l<=AY l
 | [],_,_,_,_=>by simp [C6]
 | t::r,v,k,s,i=>by
  have:=RU ps t (CS k s i v);have:=J0 ps r v k s (i+1);simp only [C6,AY];omega
end
def KK (ps:List PD) (v:List VD) (k:Int) (s:lB):∀(l:List Nd) (j i:Nat) (h:j<l.length),C6 ps v k s i (l.take (j+1))=C6 ps v k s i (l.take j)+(l[j]).flt ps (CS k s (i+j) v)
 | t::r,0,i,_=>by simp [C6]
 | t::r,j+1,i,h=>by
  simp only [iU,C6,kU];rw [KK ps v k s r j (i+1) (by simpa using h)];rw [show i+1+j=i+(j+1) by omega];omega
def LR (ps:List PD) (v:List VD) (s:lB) (m:Nat):∀(l:List Nd) (j i:Nat) (h:j<l.length),FG ps v s m i (l.take (j+1))=FG ps v s m i (l.take j)+Oh (Pj ps v s m (i+j) (l[j]).name)
 | t::r,0,i,_=>by simp [FG]
 | t::r,j+1,i,h=>by
  simp only [iU,FG,kU];rw [LR ps v s m r j (i+1) (by simpa using h)];rw [show i+1+j=i+(j+1) by omega];omega
def Iw:∀(l:List Nd) {j:Nat} (h:j<l.length),AY (l.take j)+l[j].size<=AY l
 | t::r,0,_=>by simp [AY]
 | t::r,j+1,h=>by
  have:=Iw r (j:=j) (by simpa using h);simp only [iU,AY,kU];omega
set_option maxHeartbeats 8000000 in
def Qd (c fb:Nat) (dq:c<=fb) (rf:FuncId) (ca:lV) (bo:BU prog rf=true) (E:wD->Value->Prop) (hR:Wg c fb rf ca E) (g:PG) (hg:g.procs.length<=1000000) (va:oA) (vc:Nat) (pa:oA) (pc:Nat) (ma:oA) (mc:Nat) (N:Nat) :
 ∀(t:Nd) (vs:List VD) (Sv Sp:nP) (ta:oA) (tc:Nat) (la:oA) (lc:Nat) (qa:oA) (qn qc:Nat) (w:wD) (v:Value) (m:Nat),t.size<N->vs.length+t.size<=1000000->qn+t.size<=1000000->m+t.size<=1000000000->t.sits (· < c) w ta->PDs (· < c) w g.procs pa->VDs Sv w vs la->vs.length<=lc->PathAt Sp w qa qn qc->(∀b,Sv b->Kp fb w v b)->(∀b,Sp b->Kp fb w v b)->FS c fb m w v->E w v ->
  Calls prog 107 #[.agg (g.cells va vc pa pc ma mc).toArray,t.val ta tc,.slice qa qn qc,.slice la vs.length lc,.func (.func rf) #[] ca.toArray] w (RepR c fb (m+t.flt g.procs vs) w v):=by
 induction N with
 | zero=>intro t vs Sv Sp ta tc la lc qa qn qc w v m h;omega
 | succ N ih=>
  rintro ⟨k,n,s,l⟩ vs Sv Sp ta tc la lc qa qn qc w v m hN ck cl cm V M O bd U be bf hF hE;have hz:(Nd.mk k n s l).size=1+AY l:=by rw [mF]
  have c0:=Co l;rw [hz] at hN ck cl cm;have IH:=fZ ih;have aq:=fZ hR.1;have bp:=fZ hR.2;have a5:∀b,Sv b -> ¬(b=fb\/v.ownBlock=some b):=λb Z=>(be b Z).not
  have a6:∀b,Sp b -> ¬(b=fb\/v.ownBlock=some b):=λb Z=>(bf b Z).not
  have al:∀g,v.ownBlock=some g->c<=g/\g<w.heap.size:=λg hg=>⟨hF.own.ge hg,hF.own.lt hg⟩
  have dr:=hF.cell.lt;have ar:=fZ be;have a0:=fZ bf;have bq:=fZ (YF g hg k n s l ta tc vs Ab (· < c) Sv va vc pa pc ma mc la lc);have a7:=fZ (λ(w':wD) (x:Ext w w') (p:PathAt Sp w' qa qn qc)=>bp.out m v (CH g.procs vs k s l.length) s Sp qa qn qc w' Ab Ab p (hF.ext x) (aq.out _ _ _ _ hE (Eff.of_ext x)));have bg:=fZ hE;clear ih hR be bf hE hF;have X:=Ne w;have X2:=mx (λk=>k=fb\/v.ownBlock=some k) w;have V:=En V;show Calls prog 107 #[.agg (g.cells va vc pa pc ma mc).toArray,.agg #[.int .u8 k,.int .i64 n,str s,.slice ta l.length tc],.slice qa qn qc,.slice la vs.length lc,.func (.func rf) #[] ca.toArray] w _;refine Ad func107 ntmps107 rfl rfl ?_;refine cS (eB [_,_,_,_,_,_] ?_);intro b1 w2 Y x5 p6 z7;revert M O U X X2 V;refine eE x5 ?_;intro M O U X X2 V;refine eB [_,_,_,_] ?_;intro b8 w9 G cn ds dt;revert Y M O U X X2 V;refine eE cn ?_;intro Y M O U X X2 V;refine eK ?_;refine Ap (λwz=>Ext w9 wz) 8 (.pure 0 (.pure 1 (.pure 2 (.pure 3 (.pure 4 (.pure 5 (.pure 6 (.fork 7 .tail .none)))))))) mixed AR (Aa Ag) ?_;intro co br _;have ah:(λwz=>Ext w9 wz) co:=br;simp only at ah;have ac:=G;have ai:=Y;revert G Y M O U X X2 V;refine eY br ?_;intro du G Y M O U X X2 V;refine ⟨ah,?_⟩;refine eT ?_;refine Tq rfl (xL [_,_,_,_,_,_] (λwz hz=>(my ai hz))) (Tq rfl (xL [_,_,_,_] (λwz hz=>(my ac hz))) (Tq rfl Mv ?_));refine tC rfl rfl (bq.out _ Af Af) ?_;rintro _ dv ⟨⟨⟩,cp⟩;revert ah G Y M O U X X2 V;refine eY cp ?_;intro z22 ah G Y M O U X X2 V;refine ⟨ah,?_⟩;refine Aq rfl ?_;refine Az (Bb (fi:=[]) (ca:=ca) bo rfl rfl (a7.out _ Af Af) (λ_ _ h=>h.ret)) rfl ?_ aFh
  rintro _ a1 ⟨⟨⟩,an,a2,aj,a3⟩;have z28:=aj.size;have G:=mu G aj (λh=>by (rcases h with h|h;omega;have:=al _ h;omega));have Y:=mu Y aj (λh=>by (rcases h with h|h;omega;have:=al _ h;omega));have M:=PDs.fr M aj (λb Z h=>by (rcases h with h|h;omega;have:=al _ h;omega));have O:=m8 O aj (a5);have U:=nE U aj (a6);have X2:=mB X2 aj (λk hk=>gA hk);have V:=mW V aj (λb Z h=>by (rcases h with h|h;omega;have:=al _ h;omega));refine cT (Aj ?_);have e1:Eff fb w v a1 an:=⟨X2,λg hg=>(a3 g hg).imp id λh=>by omega⟩;have k1:Kp fb a1 an b1:=⟨Y.lt,Ab,λe=>by rcases a3 _ e with h|h;(have:=al _ h;omega);omega⟩;have k8:Kp fb a1 an b8:=⟨G.lt,Ab,λe=>by rcases a3 _ e with h|h;(have:=al _ h;omega);omega⟩;have EE:=fZ (aq.out);have bs:=fZ (aq.out _ _ _ _ bg.out e1);have a8:(Nd.mk k n s l).flt g.procs vs=Oh (CH g.procs vs k s l.length)+(if k=50\/k=51 then FG g.procs vs s l.length 0 l else C6 g.procs vs k s 0 l):=by rw [Nd.flt]
  rw [a8];have dw:=OH (CH g.procs vs k s l.length);clear a8;generalize Oh (CH g.procs vs k s l.length)=m0 at *;clear a7 bq a5 a6 al a3 X2;generalize an=v1 at *;refine ED (ι:=Unit) (λ_=>[(2,.slice qa qn qc),(3,.slice la vs.length lc),(4,.func (.func rf) #[] ca.toArray),(5,.pointer (some ⟨b1,0,none⟩)),(6,.pointer (some ⟨b8,0,none⟩)),(30,.bool (decide (k=50\/k=51)))]) (λ_ w'=>w'=a1) ?_ ?_
  . focus
     refine eK ?_;refine B4 rfl rfl rfl (λcq=>?_) (λcq=>?_);refine EJ (EJ (EJ (C1 Oc (Al ?_))));rotate_left;refine E2 (C1 Pg (E2 (C1 (Pl G) (E2 (C1 V1 (C1 MU (Al ?_)))))));rotate_left
    all_goals exact BC () (An rfl (An rfl (An rfl (An rfl (An rfl (BO rfl (congrArg Value.bool (by first|exact (decide_eq_true Ab).symm|exact decide_eq_decide.2 Ab)) BE)))))) rfl
  rintro-w0 h;subst h;by_cases hk:k=50\/k=51
  . rw [AT hk];clear IH;refine XU (Aj (cS (C1 Pf (C1 (Pl G) (C1 Pz (C1 Mv (cT ?_)))))));refine As ?_;refine AF (ι:=Nat×Value) (λx=>[(2,.slice qa qn qc),(3,.slice la vs.length lc),(4,.func (.func rf) #[] ca.toArray),(5,.pointer (some ⟨b1,0,none⟩)),(6,.pointer (some ⟨b8,0,none⟩)),(32,.slice ta l.length tc),(33,.int .i64 l.length),(34,.int .i64 x.1)])
     (λx w'=>x.1<=l.length/\FS c fb (m+m0+FG g.procs vs s l.length 0 (l.take x.1)) w' x.2/\Eff fb w v w' x.2/\Kp fb w' x.2 b1/\Kp fb w' x.2 b8/\Blk w' b8 [.int .u8 k,.int .i64 n,str s,.slice ta l.length tc]/\Blk w' b1 (g.cells va vc pa pc ma mc)/\PDs (· < c) w' g.procs pa/\VDs Sv w' vs la/\PathAt Sp w' qa qn qc/\rowSits (· < c) w' l ta)
     (λx=>l.length-x.1) (0,v1) sB ⟨gI _,a2,e1,k1,k8,G,Y,M,O,U,V⟩ ?_
    clear a2 e1 k1 k8 G Y M O U V bs;rintro ⟨j,vj⟩ w3 ⟨hj,hF,e3,k1,k8,G,Y,M,O,U,V⟩;simp only at hj hF e3 k1 k8 G Y M O U V;by_cases ag:j<l.length
    . have ad:∀g,vj.ownBlock=some g->c<=g/\g<w3.heap.size/\g≠b1/\g≠b8:=λg hg=>⟨hF.own.ge hg,hF.own.lt hg,λe=>k1.2.2 (e▸hg),λe=>k8.2.2 (e▸hg)⟩
      have au:∀b,Sv b -> ¬(b=fb\/vj.ownBlock=some b):=λb Z=>((ar.out b Z).eff e3).not
      have av:∀b,Sp b -> ¬(b=fb\/vj.ownBlock=some b):=λb Z=>((a0.out b Z).eff e3).not
      have aw:∀b,Sv b->b<w3.heap.size:=λb Z=>((ar.out b Z).eff e3).1
      have ax:∀b,Sp b->b<w3.heap.size:=λb Z=>((a0.out b Z).eff e3).1
      have bh:=k1.not;have bi:=k8.not;have cr:=k8.1;have bj:=fZ (EE.out _ _ _ _ bg.out e3);have bt:=LQ g.procs vs s l.length (l.take j) 0;rw [iE] at bt;have am:=LR g.procs vs s l.length l j 0 ag;rw [iR] at am;obtain ⟨kb,ko,rfl,kS,ak⟩:=BJ V (by intro e;subst e;simp at ag);obtain ⟨xa,xc,rx,-⟩:=ak j l[j] (fY ag);have bu:=fZ (Qc g hg k n s l Ab j ag vs Ab);have ay:=fZ (λ(w':wD) (x:Ext w3 w') (S:nP) (pa:oA) (pn pc:Nat) (hp:pn<=1000000) (p:PathAt S w' pa pn pc)=>bp.out (m+m0+FG g.procs vs s l.length 0 (l.take j)) vj (Pj g.procs vs s l.length j l[j].name) l[j].name S pa pn pc w' Ab hp p (hF.ext x) (aq.out _ _ _ _ bj.out (Eff.of_ext x)));have E3:=fZ e3;clear ak hF e3;have az:m+m0+FG g.procs vs s l.length 0 (l.take (j+1))=m+m0+FG g.procs vs s l.length 0 (l.take j)+Oh (Pj g.procs vs s l.length j l[j].name):=by rw [am];omega
      rw [<-az] at ay;clear am az;generalize l[j]=x at *;generalize Pj g.procs vs s l.length j x.name=ex at *;have X3:=Ne w3;have X4:=mx (λk=>k=fb\/vj.ownBlock=some k) w3;refine eK ?_;refine eA [_,_,_,_] ?_;intro dx dy ct cu dz d0;revert Y M O U G V X3 X4;refine eE cu ?_;intro Y M O U G V X3 X4;refine C1 Pa (eS [_,_,_,_] ct ?_);intro bv bw ao c1;revert Y M;refine eF ao ?_;intro Y M;have O:=m8 O ao (λb Z e=>by have:=aw b Z;omega);have U:=nE U ao (λb Z e=>by have:=ax b Z;omega);revert G V X3 X4;refine eF ao ?_;intro G V X3 X4;refine cT (Ap (λwz=>Ext bv wz) 11 (.pure 0 (.pure 1 (.pure 2 (.pure 4 (.pure 5 (.pure 6 (.pure 7 (.pure 8 (.pure 9 (.fork 3 (.fork 10 .tail .none) .none)))))))))) mixed AR (Ae (Aa (Aa (Ae (Aa (Aa Ag)))))) ?_);intro bx a9 _;have aa:(λwz=>Ext bv wz) bx:=a9;simp only at aa;have cj:=bw;have ai:=Y;have ac:=G;revert Y M O U G V X3 X4;refine eY a9 ?_;intro c2 Y M O U G V X3 X4;refine ⟨aa,?_⟩;refine eT ?_;refine Tq rfl (xL [_,_,_,_,_,_] (λwz hz=>(my ai hz))) (Tq rfl (xL [_,_,_,_] (λwz hz=>(my ac hz))) (Tq rfl Mv (Tq rfl Mv ?_)));refine tC rfl rfl (Tb _ _ _ _ _ _ Ab Af) ?_;rintro _ c3 ⟨c4,c5,⟨⟩,ba,bz⟩;revert aa Y M O U G V X3 X4;refine eY bz ?_;intro c6 aa Y M O U G V X3 X4;refine ⟨aa,?_⟩;refine tC rfl rfl (bu.out _ _ _ _ _ _ _ _ _ _ _ _ _ _ Af Af Af) ?_;rintro _ c7 ⟨⟨⟩,b0⟩;revert ba aa Y M O U G V X3 X4;refine eY b0 ?_;intro c8 ba aa Y M O U G V X3 X4;refine ⟨aa,?_⟩;refine Aq rfl ?_;refine Az (Bb (fi:=[]) (ca:=ca) bo rfl rfl (ay.out _ Af _ _ _ _ Ab Af) (λ_ _ h=>h.ret)) rfl ?_ aFh;rintro _ b2 ⟨⟨⟩,bk,b3,ae,b4⟩;have Y:=mu Y ae (bh);have M:=PDs.fr M ae (λb Z h=>by (rcases h with h|h;omega;have:=ad _ h;omega));have O:=m8 O ae (au);have U:=nE U ae (av);have G:=mu G ae (bi);have V:=mW V ae (λb Z h=>by (rcases h with h|h;omega;have:=ad _ h;omega));clear rx;have X4:=mB X4 ae (λk hk=>gA hk);refine Al (Ah (Ai (Ak (C1 V7 (C1 Mv (Al ?_))))))
      have e4:Eff fb w3 vj b2 bk:=⟨X4,λg hg=>(b4 g hg).imp id λh=>by omega⟩
      exact Av (j+1,_) sB ⟨by simp only;omega,b3,E3.out.trans e4,k1.eff e4,k8.eff e4,G,Y,M,O,U,V⟩ (by simp only;omega)
    . obtain rfl:j=l.length:=by omega
      rw [gL] at hF;refine eK ?_;refine EA rfl ?_;rw [<-lG];exact ⟨rfl,vj,hF,e3.fr,e3.new⟩
  . rw [AC hk];refine Vt (Am (Ai (cS (C1 Pf (C1 (Pl G) (C1 Pz (C1 Mv (cT ?_))))))));refine As ?_;refine AF (ι:=Nat×Value) (λx=>[(2,.slice qa qn qc),(3,.slice la vs.length lc),(4,.func (.func rf) #[] ca.toArray),(5,.pointer (some ⟨b1,0,none⟩)),(6,.pointer (some ⟨b8,0,none⟩)),(53,.slice ta l.length tc),(54,.int .i64 l.length),(55,.int .i64 x.1)])
     (λx w'=>x.1<=l.length/\FS c fb (m+m0+C6 g.procs vs k s 0 (l.take x.1)) w' x.2/\Eff fb w v w' x.2/\Kp fb w' x.2 b1/\Kp fb w' x.2 b8/\Blk w' b8 [.int .u8 k,.int .i64 n,str s,.slice ta l.length tc]/\Blk w' b1 (g.cells va vc pa pc ma mc)/\PDs (· < c) w' g.procs pa/\VDs Sv w' vs la/\PathAt Sp w' qa qn qc/\rowSits (· < c) w' l ta)
     (λx=>l.length-x.1) (0,v1) sB ⟨gI _,a2,e1,k1,k8,G,Y,M,O,U,V⟩ ?_
    clear a2 e1 k1 k8 G Y M O U V bs;rintro ⟨j,vj⟩ w3 ⟨hj,hF,e3,k1,k8,G,Y,M,O,U,V⟩;simp only at hj hF e3 k1 k8 G Y M O U V;by_cases ag:j<l.length
    . have ad:∀g,vj.ownBlock=some g->c<=g/\g<w3.heap.size/\g≠b1/\g≠b8:=λg hg=>⟨hF.own.ge hg,hF.own.lt hg,λe=>k1.2.2 (e▸hg),λe=>k8.2.2 (e▸hg)⟩
      have au:∀b,Sv b -> ¬(b=fb\/vj.ownBlock=some b):=λb Z=>((ar.out b Z).eff e3).not
      have av:∀b,Sp b -> ¬(b=fb\/vj.ownBlock=some b):=λb Z=>((a0.out b Z).eff e3).not
      have aw:∀b,Sv b->b<w3.heap.size:=λb Z=>((ar.out b Z).eff e3).1
      have ax:∀b,Sp b->b<w3.heap.size:=λb Z=>((a0.out b Z).eff e3).1
      have bh:=k1.not;have bi:=k8.not;have cr:=k8.1;have c9:=hF.cell.lt;have da:=hF.le;have bj:=fZ (EE.out _ _ _ _ bg.out e3);have d1:=J0 g.procs (l.take j) vs k s 0;have am:=KK g.procs vs k s l j 0 ag;rw [iR] at am;have d2:=Iw l ag;obtain ⟨kb,ko,rfl,kS,ak⟩:=BJ V (by intro e;subst e;simp at ag);obtain ⟨xa,xc,rx,sx⟩:=ak j l[j] (fY ag);have db:(CS k s j vs).length<=vs.length+1:=by unfold CS;split<;>(try split)<;>simp
      have HV:=fZ (λ(w':wD) (x:Ext w3 w') (bl bm:nP) (b5:oA) (b6:Nat) (b7:oA) (b9:Nat) (V:(l[j]).sits (· < c) w' xa) (M:PDs (· < c) w' g.procs pa) (O:VDs bl w' (CS k s j vs) b5) (bd:(CS k s j vs).length<=b6) (U:PathAt bm w' b7 (qn+1) b9) (cv:∀b,bl b->Sv b\/(w3.heap.size<=b/\b<w'.heap.size)) (cw:∀b,bm b->w3.heap.size<=b/\b<w'.heap.size)=>
       IH.out l[j] (CS k s j vs) bl bm xa xc b5 b6 b7 (qn+1) b9 w' vj (m+m0+C6 g.procs vs k s 0 (l.take j)) Ab Ab Ab Ab V M O bd U
        (λb Z=>by
         rcases cv b Z with h|h
         . exact ((ar.out b h).eff e3).eff (Eff.of_ext x)
         . exact ⟨h.2,Ab,λe=>by have:=ad _ e;omega⟩)
        (λb Z=>by have h:=cw b Z;exact ⟨h.2,Ab,λe=>by have:=ad _ e;omega⟩) (hF.ext x) (aq.out _ _ _ _ bj.out (Eff.of_ext x)))
      have az:m+m0+C6 g.procs vs k s 0 (l.take (j+1))=m+m0+C6 g.procs vs k s 0 (l.take j)+(l[j]).flt g.procs (CS k s j vs):=by rw [am];omega
      rw [<-az] at HV;have cx:=fZ (YE k n s l (some ⟨kb,ko,none⟩) tc j vs Ab Sv la lc);have E3:=fZ e3;clear ak hF e3 am az;generalize CS k s j vs=d3 at *;generalize l[j]=x at *;have X3:=Ne w3;have X4:=mx (λk=>k=fb\/vj.ownBlock=some k) w3
      focus
       refine eK ?_;refine eA [_,_,_,_] ?_;intro d4 d5 cy cz d6 d7;revert Y M O U G V sx X3 X4;refine eE cz ?_;intro Y M O U G V sx X3 X4;refine C1 Pa (eS [_,_,_,_] cy ?_);intro cb cc ap dc;revert Y M;refine eF ap ?_;intro Y M;have O:=m8 O ap (λb Z e=>by have:=aw b Z;omega);have U:=nE U ap (λb Z e=>by have:=ax b Z;omega);revert G V sx X3 X4;refine eF ap ?_;intro G V sx X3 X4;refine cT (Ap (λwz=>Ext cb wz) 10 (.pure 0 (.pure 1 (.pure 2 (.pure 3 (.pure 5 (.pure 6 (.pure 7 (.pure 9 (.fork 4 (.fork 8 .tail .none) .none))))))))) mixed AR (Ae (Aa (Aa (Ae Ag)))) ?_);intro cd bb _;have ab:(λwz=>Ext cb wz) cd:=bb;simp only at ab;have a4:=cc;have ai:=Y;have ac:=G;revert Y M O U G V sx X3 X4;refine eY bb ?_;intro dd Y M O U G V sx X3 X4;refine ⟨ab,?_⟩;refine Tq rfl (xL [_,_,_,_,_,_] (λwz hz=>(my ai hz))) (Tq rfl (xL [_,_,_,_] (λwz hz=>(my a4 hz))) (Tq rfl Mv (Tq rfl Mv (Tq rfl (xL [_,_,_,_] (λwz hz=>(my ac hz))) ?_))));refine eT ?_;refine tC rfl rfl (Tb _ _ _ _ _ _ Ab Af) ?_;rintro _ de ⟨df,dg,⟨⟩,bc,ce⟩;revert ab Y M O U G V sx X3 X4;refine eY ce ?_;intro dh ab Y M O U G V sx X3 X4;refine ⟨ab,?_⟩;refine tC rfl rfl (cx.out _ bd Af) ?_;rintro _ di ⟨dk,dl,⟨⟩,dm,dn,cf⟩;revert bc ab Y M O U G V sx X3 X4;refine eY cf ?_;intro dp bc ab Y M O U G V sx X3 X4;refine ⟨ab,?_⟩;refine Aq rfl (cC rfl (HV.out _ Af _ _ _ _ _ _ Af Af Af Ab Af (by (intro b Z;rcases Z with Z|Z;exact gA Z;exact gB ⟨Ab,Ab⟩)) (by (intro b Z;exact ⟨Ab,Ab⟩))) ?_);rintro _ cg ⟨⟨⟩,bn,ch,af,ci⟩;have Y:=mu Y af (bh);have M:=PDs.fr M af (λb Z h=>by (rcases h with h|h;omega;have:=ad _ h;omega));have O:=m8 O af (au);have U:=nE U af (av);have G:=mu G af (bi);have V:=mW V af (λb Z h=>by (rcases h with h|h;omega;have:=ad _ h;omega));clear rx;have X4:=mB X4 af (λk hk=>gA hk);refine Al (Ah (Ai (Ak (C1 V7 (C1 Mv (Al ?_))))))
       rotate_left
      have e4:Eff fb w3 vj cg bn:=⟨X4,λg hg=>(ci g hg).imp id λh=>by omega⟩
      exact Av (j+1,_) sB ⟨by simp only;omega,ch,E3.out.trans e4,k1.eff e4,k8.eff e4,G,Y,M,O,U,V⟩ (by simp only;omega)
    . obtain rfl:j=l.length:=by omega
      rw [gL] at hF;refine cS (C1 V3 (cT (Aj (Dd (BF (Ay (Ay (AS (Bi rfl ?_)))))))));rw [<-lG];exact ⟨rfl,vj,hF,e3.fr,e3.new⟩
def ZT (S:nP) (w:wD) (b o:Nat) (p:PD):Prop:= ∃pa pc ba bc,Row w ⟨b,o,none⟩ (p.cells pa pc ba bc)/\VDs S w p.params pa/\p.body.sits S w ba/\p.params.length<=pc
def PDsC (S:nP) (w:wD) (l:List PD) (a:oA):Prop:=Arr S 6 (ZT S) w l a
def PDsC.pds (h:PDsC S w l a):PDs S w l a:=h.mono aFh (λ_ _ _ _ _ ⟨G,pc,ba,bc,h1,h2,h3,_⟩=>⟨G,pc,ba,bc,h1,h2,h3⟩)
def PDsC.ext {S:nP} {w w':wD} {l:List PD} {a:oA} (h:PDsC S w l a) (x:Ext w w'):PDsC S w' l a:=
 h.mono aFh (λ_ _ _ _ _ ⟨G,pc,ba,bc,h1,h2,h3,h4⟩=>⟨G,pc,ba,bc,h1.ext x,h2.ext x,h3.ext x,h4⟩)
instance {w':wD}:LfE w w' (PDsC S w l a) (PDsC S w' l a):=⟨λx h=>Bk.PDsC.ext h x⟩
def PDsC.fr {S T:nP} {w w':wD} {l:List PD} {a:oA} (h:PDsC S w l a) (x:Fr T w w') (G:∀b,S b -> ¬T b):PDsC S w' l a:=
 h.mono aFh (λb _ _ _ M ⟨N,pc,ba,bc,h1,h2,h3,h4⟩=>⟨N,pc,ba,bc,h1.fr x (G b M),h2.fr x G,h3.fr x G,h4⟩)
instance {T:nP} {w':wD}:LfF T w w' (PDsC S w l a) (∀b,S b -> ¬T b) (PDsC S w' l a):=⟨λx s h=>Bk.PDsC.fr h x s⟩
def PDsC.get (h:PDsC S w l a) (G:l≠[]):∃b o,a=some ⟨b,o,none⟩/\S b /\ ∀i p,l[i]? = some p->ZT S w b (o+i*6) p:=by
 rcases h with h|⟨b,o,M,N,O⟩
 . exact absurd h G
 . exact ⟨b,o,M,N,λi v U=>O i v U⟩
def PDsC.ltA (h:PDsC S w l a):PDsC (· < w.heap.size) w l a:=by
 rcases h with h|⟨b,o,V,h2,G⟩
 . exact gA h
 . cases l with
   | nil=>exact gA rfl
   | cons p r=>
    obtain ⟨M,N,O,U,X,-⟩:=G 0 p rfl;refine gB ⟨b,o,V,Ci (X.at0 rfl),λi v Y=>?_⟩;obtain ⟨M,N,O,U,Z,k2,k3,k4⟩:=G i v Y;exact ⟨M,N,O,U,Z,k2.lt2.wide (λ_ h=>h.2),B6 _ _ k3,k4⟩
def EN:Shape PD where
 sz:=6
 rep:=λw S p cs=> ∃pa pc ba bc,cs=p.cells pa pc ba bc/\VDs S w p.params pa/\p.body.sits S w ba/\p.params.length<=pc
 len:=λ⟨_,_,_,_,h,_⟩=>by rw [h];rfl
 one:=λ⟨_,_,_,_,h,_⟩=>by rw [h];rfl
 mono:=λ⟨pa,pc,ba,bc,h,h1,h2,h3⟩ hS hc=>⟨pa,pc,ba,bc,h,h1.move hS hc,nh hS hc _ ba h2,h3⟩
 lt:=λ⟨pa,pc,ba,bc,h,h1,h2,h3⟩=>⟨pa,pc,ba,bc,h,h1.lt2,Gb _ ba h2,h3⟩
def PDsC.wide {S S':nP} {w:wD} {l:List PD} {a:oA} (h:PDsC S w l a) (G:∀b,S b->S' b):PDsC S' w l a:=
 h.mono G (λ_ _ _ _ _ ⟨M,pc,ba,bc,h1,h2,h3,h4⟩=>⟨M,pc,ba,bc,h1,h2.wide G,mD h3 G,h4⟩)
def OwnL.pdsC {B e:Nat} {len cap:Nat} {xs:List PD} (h:OwnL EN w B e (.slice a len cap) xs) (M:∀b,B<=b->S b):PDsC S w xs a:=by
 by_cases O:xs=[]
 . exact gA O
 . obtain ⟨g,U,V,X,G⟩:=h.rows O;simp only [iF] at V;obtain ⟨rfl,-,-⟩:=V;refine gB ⟨g,0,rfl,M g X,λi x Y=>?_⟩;obtain ⟨cs,Z,pa,pc,ba,bc,rfl,h1,h2,h3⟩:=G i x Y;exact ⟨pa,pc,ba,bc,by simpa [EN] using Z,h1.wide (λb N=>M b N.1),h2.wide (λb N=>M b N.1),h3⟩
def Hg:∀(l acc:List VD) (i:Nat) (h:i<l.length),Ck acc (l.take (i+1))=Ck acc (l.take i)+Oh (EU (acc++l.take i) (l[i]).name)
 | v::r,acc,0,_=>by simp [Ck]
 | v::r,acc,i+1,h=>by
  simp only [iU,Ck,kU];rw [Hg r (acc++[v]) i (by simpa using h)];simp only [iG,lE];omega
def Fg:∀(l acc:List VD),Ck acc l<=l.length
 | [],_=>by simp [Ck]
 | v::r,acc=>by
  have:=OH (EU acc v.name);have:=Fg r (acc++[v]);simp only [Ck,gH];omega
def LS (ps:List PD) (i:Nat) (p:PD):Nat:=(if (CD ps p.name).getD i<i then 1 else 0)+Ck [] p.params+p.body.flt ps p.params
def KL (ps:List PD):∀(l:List PD) (i j:Nat) (h:j<l.length),DK ps i (l.take (j+1))=DK ps i (l.take j)+LS ps (i+j) l[j]
 | p::r,i,0,_=>by simp [DK,LS]
 | p::r,i,j+1,h=>by
  simp only [iU,DK,kU];rw [KL ps r (i+1) j (by simpa using h)];rw [show i+1+j=i+(j+1) by omega];omega
def Wh {ps:List PD} {i:Nat} (h:i<ps.length):decide (Gi ps (ps[i]).name<(i:Int))=decide ((CD ps (ps[i]).name).getD i<i):=by
 unfold Gi;cases hq:CD ps (ps[i]).name with
 | none=>
  exfalso;unfold CD at hq;rw [List.findIdx?_eq_none_iff] at hq;have:=hq ps[i] (gK h);simp at this
 | some j=>simp
def VD.ok (v:VD):Bool:=Cl v.name&&if v.kind=1\/v.kind=3 then v.len==0 else if v.kind=2 then decide (1<=v.len)&&decide (v.len<=16) else false
def GU (l:List VD):Bool:=l.all VD.ok
mutual
def Nd.lim:Nd->Int->Int->Bool×Int
 | .mk _ _ _ l,d,m=>if d=0\/m=0 then (false,m) else CY l (d-1) (m-1)
def CY:List Nd->Int->Int->Bool×Int
 | [],_,m=>(true,m)
 | t::r,d,m=>if (t.lim d m).1 then CY r d (t.lim d m).2 else (false,(t.lim d m).2)
end
def EW (t:Nd):Bool:=(t.lim 80 2000).1&&t.isBlock
def PD.ok (p:PD):Bool:=Cl p.name&&decide (p.params.length<=8)&&GU p.params&&EW p.body
def PG.ok (g:PG):Bool:=decide (g.vars.length<=32)&&decide (g.procs.length<=64)&&GU g.vars&&g.procs.all PD.ok&&EW g.main
end Bk
namespace Bk
open Go Go.RowKit Go.Proofs
variable {r e m n:Nat} {G:List (lB×Value)} {w w':wD} {l:List (Int×Int)} {S:nP} {N:oA} {x:Operand} {xs:List Int} {g:PG} {ps:List PD} {v:Value} {k:Int}
structure VD.wf (v:VD):Prop where
 name:v.name.length<=9223372036854775807
 k0:0<=v.kind
 k1:v.kind<=255
 l0 : -9223372036854775808<=v.len
 l1:v.len<=9223372036854775807
def Qe {l:List VD} {j:Nat} (h:j<l.length) (G:l[j].ok=false):GU l=false:=by
 unfold GU;rw [mh];exact ⟨l[j],gK h,by simp [G]⟩
def RV {l:List VD} (h:∀j (N:j<l.length),l[j].ok=true):GU l=true:=by
 unfold GU;rw [iJ];intro x G;obtain ⟨i,M,rfl⟩:=List.mem_iff_getElem.1 G;exact h i M
def LT (l:List VD) (S:nP) (a:oA) (c:Nat) (w:wD) (hl:l.length<=9223372036854775807) (ab:∀v∈l,v.wf) (hs:VDs S w l a) :
 Calls prog 102 #[.slice a l.length c] w λe w'=>e = .returned (.bool (GU l))/\Ext w w':=by
 refine Ad func102 ntmps102 rfl rfl (eK ?_);refine AF (ι:=Nat) (λj=>[(7,.int .i64 j),(6,.int .i64 l.length),(5,.slice a l.length c)]) (λj w'=>Ext w w'/\j<=l.length /\ ∀i (U:i<l.length),i<j->l[i].ok=true) (λj=>l.length-j) 0 sB ⟨Ne _,Ab,Ab⟩ ?_;rintro j w1 ⟨x1,hj,Y⟩;have HA:=fZ Y;by_cases V:j<l.length
 . obtain ⟨kb,ko,rfl,-,Z⟩:=mM (hs.ext x1) Ab;have rx:Row w1 ⟨kb,ko+j*3,none⟩ l[j].cells:=Z j l[j] (fY V);have wf:=ab l[j] (gK V);have ac:=wf.name;have HF:l[j].ok=false->GU l=false:=Qe V;have X:=fZ HF;generalize hv:l[j]=v at *;have HE:=fZ hv;refine eK ?_;refine G0 Ca rfl rfl ?_;intro b2 w2 N;refine I4 Ac rfl rfl rfl rfl rfl rfl (N) rfl ?_;intro w2 N;have h2:=N.blk;have x2:=N.ext;refine kC (IM v.name _ ac) ?_;rintro _ w3 ⟨⟨⟩,x3⟩;have G:Ext w w3:=(by refine mA ?_ Af;refine mA ?_ Af;assumption);have h3:=h2.ext x3;cases hnm:Cl v.name
   . try rw [hnm]
     refine C1 Pt (Al (Ai (GX rfl (by rfl) (eK ?_))));refine AW results102 rfl ?_;exact ⟨AZ (X.out (by simp [VD.ok,hnm])).symm,G⟩
   try rw [hnm]
   by_cases M:v.kind=1\/v.kind=3
   . by_cases h0:v.len=0
     . have h:v.ok=true:=by simp [VD.ok,hnm,M,h0]
       rcases M with M|M
       . refine C1 Pt (Al (Ai (GY rfl (by rfl) ?_)));refine eK ?_;refine Av (j+1) sB ⟨G,Ab,λi U aa=>?_⟩ Ab;by_cases e:i=j
         . subst e;exact HE.out▸h
         . exact HA.out i U Ab
       . refine C1 Pt (Al (Ai (GY rfl (by rfl) ?_)));refine eK ?_;refine Av (j+1) sB ⟨G,Ab,λi U aa=>?_⟩ Ab;by_cases e:i=j
         . subst e;exact HE.out▸h
         . exact HA.out i U Ab
     . have h:v.ok=false:=by simp [VD.ok,hnm,M,h0]
       rcases M with M|M
       . refine C1 Pt (Al (Ai (GY rfl (by rfl) ?_)));refine eK ?_;refine AW results102 rfl ?_;exact ⟨AZ (X.out h).symm,G⟩
       . refine C1 Pt (Al (Ai (GY rfl (by rfl) ?_)));refine eK ?_;refine AW results102 rfl ?_;exact ⟨AZ (X.out h).symm,G⟩
   . have ad:v.kind≠1:=λe=>M (gA e)
     have ae:v.kind≠3:=λe=>M (gB e)
     by_cases O:v.kind=2
     . by_cases af:v.len<1
       . have h:v.ok=false:=by simp [VD.ok,hnm,O];omega
         refine C1 Pt (Al (Ai (GY rfl (by rfl) (Am (Ai (Aj (Ak (C1 Pf (C1 MX (Al (Ai ?_)))))))))));refine As (Aj (Aj (Ak (C1 V1 (C1 Pa (Al (Ai (Vt (Ak (C1 V1 (C1 Pa (Al (Ai (Vt (Aj (Ak (C1 V1 (C1 Pa (Al (Ai (XU (Aj (Ak (C1 Pf (C1 MX (C1 V3 (C1 Mv (BB rfl rfl rfl Af rfl (BB rfl rfl rfl Af rfl (BB rfl rfl rfl Af rfl (C1 Oc (Al (Ai (GX rfl (by rfl) (eK ?_)))))))))))))))))))))))))))))))))));refine AW results102 rfl ?_;exact ⟨AZ (X.out h).symm,G⟩
       . by_cases ag:16<v.len
         . have h:v.ok=false:=by simp [VD.ok,hnm,O];omega
           refine C1 Pt (Al (Ai (GY rfl (by rfl) (Am (Ai (Aj (Ak (C1 Pf (C1 MX (Al (Ai ?_)))))))))));refine As (Aj (Aj (Ak (C1 V1 (C1 Pa (Al (Ai (Vt (Ak (C1 V1 (C1 Pa (Al (Ai (Vt (Aj (Ak (C1 V1 (C1 Pa (Al (Ai (XU (Aj (Ak (C1 Pf (C1 MX (C1 V3 (C1 Mv (Bh rfl rfl rfl Af (C1 Pf (Bh rfl rfl rfl Af (C1 MX (Bh rfl rfl rfl Af (eK ?_)))))))))))))))))))))))))))))))));refine AW results102 rfl ?_;exact ⟨AZ (X.out h).symm,G⟩
         . have h:v.ok=true:=by simp [VD.ok,hnm,O];omega
           refine C1 Pt (Al (Ai (GY rfl (by rfl) (Am (Ai (Aj (Ak (C1 Pf (C1 MX (Al (Ai ?_)))))))))));refine As (Aj (Aj (Ak (C1 V1 (C1 Pa (Al (Ai (Vt (Ak (C1 V1 (C1 Pa (Al (Ai (Vt (Aj (Ak (C1 V1 (C1 Pa (Al (Ai (XU (Aj (Ak (C1 Pf (C1 MX (C1 V3 (C1 Mv (Bh rfl rfl rfl Af (C1 Pf (Bh rfl rfl rfl Af (C1 MX (Bh rfl rfl rfl Af (eK ?_)))))))))))))))))))))))))))))))));refine Av (j+1) sB ⟨G,Ab,λi U aa=>?_⟩ Ab;by_cases e:i=j
           . subst e;exact HE.out▸h
           . exact HA.out i U Ab
     . have h:v.ok=false:=by simp [VD.ok,hnm,ad,O,ae]
       refine C1 Pt (Al (Ai (GY rfl (by rfl) (eK ?_))));refine AW results102 rfl ?_;exact ⟨AZ (X.out h).symm,G⟩
 . refine eK ?_;refine AW results102 rfl ?_;exact ⟨AZ (RV (λi U=>HA.out i U Ab)).symm,x1⟩
mutual
def OI:∀(t:Nd) (d m:Int),0<=m->0<=(t.lim d m).2/\(t.lim d m).2<=m
 | .mk _ _ s l,d,m,hm=>by
  simp only [Nd.lim];split
  . exact ⟨hm,Int.le_refl _⟩
  . have:=Nr l (d-1) (m-1) Ab;omega
def Nr:∀(l:List Nd) (d m:Int),0<=m->0<=(CY l d m).2/\(CY l d m).2<=m
 | [],d,m,hm=>by simp only [CY];omega
 | t::r,d,m,hm=>by
  have h1:=OI t d m hm;simp only [CY];split
  . have:=Nr r d (t.lim d m).2 h1.1;omega
  . omega
end
def Qf (l:List Nd) (j:Nat) (h:j<l.length) (d m:Int):CY (l.drop j) d m=if (l[j].lim d m).1 then CY (l.drop (j+1)) d (l[j].lim d m).2 else (false,(l[j].lim d m).2):=by
 rw [gW h,CY]
def Ux (N:Nat):∀(t:Nd) (S:nP) (a:oA) (c:Nat) (d m:Int) (M:Nat) (w:wD),t.size<N->t.wf->0<=d->d<=1000000->0<=m->m<=1000000->t.sits S w a -> ¬S M->Blk w M [.int .i64 m] ->
 Calls prog 139 #[t.val a c,.int .i64 d,.pointer (some ⟨M,0,none⟩)] w λe w'=>e = .returned (.bool (t.lim d m).1)/\Blk w' M [.int .i64 (t.lim d m).2]/\Fr (· = M) w w':=by
 induction N with
 | zero=>intro t S a c d m M w h;omega
 | succ N ih=>
  intro t S a c d m M w hN ab ar au av aw hs hS hb;have IH:=fZ ih;obtain ⟨k,n,s,l⟩:=t;simp only [Nd.wf,mF] at ab hN;simp only [Nd.val,Nd.kind,Nd.num,Nd.name,Nd.kids,Nd.lim];simp only [Nd.sits] at hs;obtain ⟨-,-,-,-,-,ax,ag⟩:=ab;have aq:=hb.lt;by_cases X:d=0\/m=0
  . rw [AT X];refine Ad func139 ntmps139 rfl rfl (eK ?_);refine Lg rfl rfl rfl ?_;intro b1 w1 G;have h1:=G.blk;have x1:=G.ext;have Y:=hb.ext x1;by_cases hd:d=0
    . refine C1 Pa (Al (Ai (Aj (Aj (Ak (C1 Mv (C1 V1 (C1 Mv (BB rfl rfl rfl Af rfl (BB rfl rfl rfl Af rfl (BB rfl rfl rfl Af rfl ?_)))))))))));refine BB rfl rfl rfl Af rfl (C1 Oc (Al (Ai (GX rfl (by rfl) (eK ?_)))));refine AW results139 rfl ?_;exact ⟨rfl,Y,.of_ext x1⟩
    . have hm:m=0:=by omega
      refine C1 Pa (Al (Ai (Aj (Aj (Ak (C1 Mv (C1 V1 (C1 Mv (Bh rfl rfl rfl Af (C1 Mv (Bh rfl rfl rfl Af (C1 Pn (Bh rfl rfl rfl Af (C1 MX (Bh rfl rfl rfl Af (eK ?_))))))))))))))));refine AW results139 rfl ?_;exact ⟨rfl,Y,.of_ext x1⟩
  . rw [AC X];have hd:d≠0:=λe=>X (gA e)
    have hm:m≠0:=λe=>X (gB e)
    refine Ad func139 ntmps139 rfl rfl (eK ?_);refine Lg rfl rfl rfl ?_;intro b1 w1 G;have h1:=G.blk;have x1:=G.ext;have p1:=G.pos;have Y:=hb.ext x1;have ah:=hs.ext x1;refine C1 Pa (Al (Ai (Aj (Aj (Ak (C1 Mv (C1 V1 (C1 Mv (Bh rfl rfl rfl Af (C1 Mv (Bh rfl rfl rfl Af (C1 Pn (Bh rfl rfl rfl Af (C1 MX (Bh rfl rfl rfl Af (C1 V1 (C1 MU (Al (Ai (Vt (Am (Ai (Aj (Ak (C1 Mv (C1 Pn (C1 MX (CB (by exact AL rfl rfl (gG _ Ab)) rfl (C1 Pn (Lh Ac rfl rfl rfl rfl rfl rfl (Y) rfl ?_))))))))))))))))))))))))))))));intro w2 O;have ai:Blk w2 M [.int .i64 (m-1)]:=O.blk;have h2:=h1.put O Ab;have aj:rowSits S w2 l a:=ah.fr O.fr (λb hb e=>hS (e▸hb));have f2:Fr (· = M) w w2:=(mt x1).trans O.fr;have ay:w2.heap.size=b1+1:=by rw [O.size,G.size]
    have ak:=fZ aj;refine eK ?_;refine AF (ι:=Nat) (λx=>[(25,.int .i64 x),(24,.int .i64 l.length),(23,.slice a l.length c),(2,.pointer (some ⟨M,0,none⟩)),(1,.int .i64 d)]) (λx w'=>Fr (· = M) w2 w'/\x<=l.length /\ ∃V,Blk w' M [.int .i64 V]/\0<=V/\V<=1000000/\CY l (d-1) (m-1)=CY (l.drop x) (d-1) V) (λx=>l.length-x) 0 sB ⟨mx _ _,gI _,m-1,ai,Ab,Ab,rfl⟩ ?_;rintro j w3 ⟨f3,hj,V,ac,aa,ad,al⟩;have HR:=fZ al;by_cases U:j<l.length
    . have am:rowSits S w3 l a:=ak.out.fr f3 (λb hb e=>hS (e▸hb));obtain ⟨kb,ko,rfl,az,ae⟩:=BJ am (by intro e;subst e;simp at U);obtain ⟨xa,xc,rx,sx⟩:=ae j l[j] (fY U);have an:=BN ag l[j] (gK U);have a0:=D4 (gK U);have HD:=fZ (Qf l j U (d-1) V);generalize l[j]=x at *;have ao:=OI x (d-1) V aa;refine eK ?_;refine G0 Ca rfl rfl ?_;intro b4 w4 Z;refine I4 Ac rfl rfl rfl rfl rfl rfl (Z) rfl ?_;intro w4 Z;have h4:=Z.blk;have x4:=Z.ext;have ap:=ac.ext x4;refine Al (Ai (Aj (Ak (CB (by exact Bt Ac rfl rfl rfl (by exact λwz hz=>by (try subst hz);exact (mJ Af)) (by rfl)) rfl (C1 Mv (CB (by exact AL rfl rfl (gG _ Ab)) rfl (C1 Mv (cC rfl (IH.out x S xa xc (d-1) V M _ Ab an Ab Ab aa ad (sx.ext x4) hS ap) ?_))))))));rintro _ w5 ⟨⟨⟩,af,f5⟩;have f35:Fr (· = M) w2 w5:=f3.trans ((mt x4).trans f5);cases X:(x.lim (d-1) V).1
      . try rw [X]
        refine C1 Pt (Al (Ai (GX rfl (by rfl) (eK ?_))));refine AW results139 rfl ?_;rw [HR.out,HD.out,X];exact ⟨rfl,af,f2.trans f35⟩
      . try rw [X]
        refine C1 Pt (Al (Ai (GY rfl (by rfl) (eK ?_))));refine Av (j+1) sB ⟨f35,Ab,(x.lim (d-1) V).2,af,ao.1,Ab,?_⟩ Ab;rw [HR.out,HD.out,X];rfl
    . refine eK ?_;refine AW results139 rfl ?_;have:l.drop j=[]:=iZ Ab;rw [HR.out,this];exact ⟨rfl,ac,f2.trans f3⟩
def Ext.fr1 {a b c:wD} (h:Ext a b) (k:Fr (· = r) b c) (N:a.heap.size<=r):Ext a c:=
 ⟨k.os.trans (Below.os h),k.tape.trans (mq h),k.output.trans (mg h),jR h.size k.size,λi M=>(k.block i (jN M h.size) Ab).trans (h.block M)⟩
def Wi (t:Nd) (a:oA) (h:t.sits S w a):t.sits (λb=>S b/\b<w.heap.size) w a:=by
 have key:∀N:Nat,(∀(l:List Nd) (a:oA),AY l<N->rowSits S w l a->rowSits (λb=>S b/\b<w.heap.size) w l a):=by
  intro N
  induction N with
  | zero=>intro l a h;omega
  | succ N G=>
   intro l a M h;cases l with
   | nil=>simp [rowSits]
   | cons x r=>
    simp only [rowSits] at h ⊢;obtain ⟨b,o,O,c,rfl,X,U,Y,Z,h3,V,hr⟩:=h;have hb:=Ci U;simp only [AY] at M;have hx:=Nd.size_pos x;obtain ⟨k,n,s,l⟩:=x;simp only [mF] at M;refine ⟨b,o,O,c,rfl,⟨X,hb⟩,U,Y,Z,h3,?_,G r _ Ab hr⟩;simp only [Nd.sits] at V ⊢;exact G l O Ab V
 obtain ⟨k,n,s,l⟩:=t;simp only [Nd.sits] at h ⊢;exact key (AY l+1) l a Ab h
def Qg (t:Nd) (S:nP) (a:oA) (c:Nat) (w:wD) (N:t.wf) (X:t.sits S w a) :
 Calls prog 103 #[t.val a c] w λe w'=>e = .returned (.bool (EW t))/\Ext w w':=by
 have O:=Wi t a X;refine Ad func103 ntmps103 rfl rfl (eK ?_);refine Lg rfl rfl rfl ?_;intro b1 w1 M;have h1:=M.blk;have x1:=M.ext;have p1:=M.pos;have z1:=M.size;refine eK ?_;refine G0 Ca rfl rfl ?_;intro b2 Y G;refine I4 Ac rfl rfl rfl rfl rfl rfl (G) rfl ?_;intro Y G;have x2:=G.ext;have h2:=h1.ext x2;have aa:=G.pos;refine Al (Ai (Aj (Ak (CB (by exact Bt Ac rfl rfl rfl (by exact λwz U=>by (try subst U);exact (mJ Af)) (by rfl)) rfl (cC rfl (Ux (t.size+1) t _ a c 80 2000 b2 _ Ab N Ab Ab Ab Ab (O.ext (by refine mA ?_ Af;assumption)) (λh=>by omega) G.blk) ?_)))));rintro _ w3 ⟨⟨⟩,-,Z⟩;have V:Ext w w3:=Ext.fr1 (b:=Y) (by refine mA ?_ Af;assumption) Z Ab;have h3:=h2.fr Z Ab;cases hq:(t.lim 80 2000).1
 . try rw [hq]
   refine eK ?_;refine AW results103 rfl ?_;exact ⟨AZ (by simp [EW,hq]),V⟩
 . try rw [hq]
   refine C1 Mv (AP rfl rfl rfl (rfl) (CB (by exact Bt Ac rfl rfl rfl (by exact λwz U=>by (try subst U);exact (mJ Af)) (by rfl)) rfl (AP rfl rfl rfl (rfl) (cC rfl (Ue S t N a c _ (X.ext V)) ?_))));rintro _ w4 ⟨⟨⟩,x4⟩;refine eK ?_;refine AW results103 rfl ?_;exact ⟨AZ (by simp [EW,hq]),V.trans x4⟩
structure PD.wf (p:PD):Prop where
 name:p.name.length<=9223372036854775807
 len:p.params.length<=9223372036854775807
 params:∀v∈p.params,v.wf
 body:p.body.wf
structure PG.wf (g:PG):Prop where
 nv:g.vars.length<=9223372036854775807
 np:g.procs.length<=9223372036854775807
 vars:∀v∈g.vars,v.wf
 procs:∀p∈g.procs,p.wf
 main:g.main.wf
def Qh {l:List PD} {j:Nat} (h:j<l.length) (G:l[j].ok=false):l.all PD.ok=false:=by
 rw [mh];exact ⟨l[j],gK h,by simp [G]⟩
def RW {l:List PD} (h:∀j (N:j<l.length),l[j].ok=true):l.all PD.ok=true:=by
 rw [iJ];intro x G;obtain ⟨i,M,rfl⟩:=List.mem_iff_getElem.1 G;exact h i M
def YG (g:PG) (S:nP) (va:oA) (vc:Nat) (pa:oA) (pc:Nat) (ma:oA) (mc:Nat) (w:wD) (h:g.wf) (hs:g.sits S w va pa ma) :
 Calls prog 68 #[.agg (g.cells va vc pa pc ma mc).toArray] w λe w'=>e = .returned (.bool g.ok)/\Ext w w':=by
 have ab:=h.nv;have ah:=h.np;refine Ad func68 ntmps68 rfl rfl ?_;refine eK ?_;refine Lg rfl rfl rfl ?_;intro b1 w1 X;have h1:=X.blk;have x1:=X.ext;by_cases c1:32<g.vars.length
 . refine C1 Pa (Al (Ai (Aj (Aj (Ak (C1 Pg (C1 MX (C1 Pz (C1 V5 (C1 Mv (BB rfl rfl rfl Ab rfl ?_)))))))))));refine BB rfl rfl rfl Ab rfl (BB rfl rfl rfl Ab rfl (BB rfl rfl rfl Ab rfl (C1 Vs (C1 Mv (A7 rfl rfl rfl (rfl) rfl (A7 rfl rfl rfl (rfl) rfl (A7 rfl rfl rfl (rfl) rfl (A7 rfl rfl rfl (rfl) rfl (C1 (B3 rfl rfl rfl) (Al (Ai ?_)))))))))));refine GX rfl (by rfl) ?_;refine eK ?_;refine AW results68 rfl ?_;exact ⟨AZ (by simp [PG.ok];omega),x1⟩
 by_cases c2:64<g.procs.length
 . refine C1 Pa (Al (Ai (Aj (Aj (Ak (C1 Pg (C1 MX (C1 Pz (C1 V5 (C1 Mv (Bh rfl rfl rfl Ab ?_)))))))))));refine C1 Pf (Bh rfl rfl rfl Ab (C1 MX (Bh rfl rfl rfl Ab (C1 Pz (Bh rfl rfl rfl Ab (C1 V5 (C1 MV (C1 Mv (BB rfl rfl rfl Ab rfl (BB rfl rfl rfl Ab rfl (BB rfl rfl rfl Ab rfl ?_)))))))))));refine BB rfl rfl rfl Ab rfl (C1 Vs (Al (Ai (GX rfl (by rfl) ?_))));refine eK ?_;refine AW results68 rfl ?_;exact ⟨AZ (by simp [PG.ok];omega),x1⟩
 refine C1 Pa (Al (Ai (Aj (Aj (Ak (C1 Pg (C1 MX (C1 Pz (C1 V5 (C1 Mv (Bh rfl rfl rfl Ab ?_)))))))))));refine C1 Pf (Bh rfl rfl rfl Ab (C1 MX (Bh rfl rfl rfl Ab (C1 Pz (Bh rfl rfl rfl Ab (C1 V5 (C1 MV (C1 Mv (Bh rfl rfl rfl Ab (C1 Pg (Bh rfl rfl rfl Ab ?_)))))))))));refine C1 MX (Bh rfl rfl rfl Ab (cC rfl (LT g.vars S va vc _ ab h.vars (hs.vars.ext x1)) ?_));rintro _ w2 ⟨⟨⟩,x2⟩;cases hq:GU g.vars
 . try rw [hq]
   refine Bh rfl rfl rfl Ab (C1 Pt (C1 MV (Al (Ai (GX rfl (by rfl) ?_)))));refine eK ?_;refine AW results68 rfl ?_;exact ⟨AZ (by simp [PG.ok,hq]),x1.trans x2⟩
 try rw [hq]
 have h2:=h1.ext x2;refine Bh rfl rfl rfl Ab (C1 Pt (C1 MV (Al (Ai (GY rfl (by rfl) ?_)))));refine eK ?_;refine AF (ι:=Nat) (λj=>[(24,.int .i64 j),(23,.int .i64 g.procs.length),(22,.slice pa g.procs.length pc),(1,.pointer (some ⟨b1,0,none⟩))]) (λj w'=>Ext w2 w'/\j<=g.procs.length /\ ∀i (hi:i<g.procs.length),i<j->g.procs[i].ok=true) (λj=>g.procs.length-j) 0 sB ⟨Ne _,Ab,Ab⟩ ?_;rintro j w3 ⟨x3,hj,Y⟩;have HA:=fZ Y;have G:Ext w w3:=(by refine mA ?_ Af;refine mA ?_ Af;assumption)
 by_cases U:j<g.procs.length
 . have ac:PDs S w3 g.procs pa:=hs.procs.ext G;obtain ⟨kb,ko,rfl,-,Z⟩:=mM ac Ab;obtain ⟨qa,qc,ba,bc,rx,sv,sb⟩:=Z j g.procs[j] (fY U);have wf:=h.procs g.procs[j] (gK U);have ad:=wf.name;have ae:=wf.len;have HN:=fZ (Qh U);generalize hv:g.procs[j]=p at *;have HE:=fZ hv;refine eK ?_;refine G0 Ca rfl rfl ?_;intro b4 w4 M;refine I4 Ac rfl rfl rfl rfl rfl rfl (M) rfl ?_;intro w4 M;have h4:=M.blk;have x4:=M.ext;refine kC (IM p.name _ ad) ?_;rintro _ w5 ⟨⟨⟩,x5⟩;have V:Ext w w5:=G.trans (x4.trans x5);have N:Ext w3 w5:=x4.trans x5;have h5:=h4.ext x5;cases hnm:Cl p.name
   . try rw [hnm]
     refine C1 Pt (C1 Mv (A7 rfl rfl rfl (rfl) rfl (A7 rfl rfl rfl (rfl) rfl (A7 rfl rfl rfl (rfl) rfl (A7 rfl rfl rfl (rfl) rfl (C1 (B3 rfl rfl rfl) (C1 Mv (A7 rfl rfl rfl (rfl) rfl (A7 rfl rfl rfl (rfl) rfl (A7 rfl rfl rfl (rfl) rfl (A7 rfl rfl rfl (rfl) rfl ?_)))))))))));refine C1 (B3 rfl rfl rfl) (C1 Mv (A7 rfl rfl rfl (rfl) rfl (A7 rfl rfl rfl (rfl) rfl (A7 rfl rfl rfl (rfl) rfl (A7 rfl rfl rfl (rfl) rfl (C1 (B3 rfl rfl rfl) (Al (Ai (GX rfl (by rfl) ?_)))))))));refine eK ?_;refine AW results68 rfl ?_;exact ⟨AZ (by simp [PG.ok,HN.out (by simp [PD.ok,hnm])]),V⟩
   try rw [hnm]
   by_cases c3:8<p.params.length
   . refine C1 Pt (C1 Mv (AP rfl rfl rfl (rfl) (C1 Pf (AP rfl rfl rfl (rfl) (C1 MX (AP rfl rfl rfl (rfl) (C1 Pz (AP rfl rfl rfl (rfl) (C1 V5 (C1 (Bu rfl rfl rfl) (C1 Mv ?_)))))))))));refine BB rfl rfl rfl Ab rfl (BB rfl rfl rfl Ab rfl (BB rfl rfl rfl Ab rfl (BB rfl rfl rfl Ab rfl (C1 Vs (C1 Mv (A7 rfl rfl rfl (rfl) rfl (A7 rfl rfl rfl (rfl) rfl (A7 rfl rfl rfl (rfl) rfl (A7 rfl rfl rfl (rfl) rfl (C1 (B3 rfl rfl rfl) (Al ?_)))))))))));refine Ai (GX rfl (by rfl) ?_);refine eK ?_;refine AW results68 rfl ?_;exact ⟨AZ (by simp [PG.ok,HN.out (by simp [PD.ok,hnm];omega)]),V⟩
   refine C1 Pt (C1 Mv (AP rfl rfl rfl (rfl) (C1 Pf (AP rfl rfl rfl (rfl) (C1 MX (AP rfl rfl rfl (rfl) (C1 Pz (AP rfl rfl rfl (rfl) (C1 V5 (C1 (Bu rfl rfl rfl) (C1 Mv ?_)))))))))));refine Bh rfl rfl rfl Ab (C1 Pf (Bh rfl rfl rfl Ab (C1 MX (Bh rfl rfl rfl Ab (cC rfl (LT p.params S qa qc _ ae wf.params (sv.ext N)) ?_)))));rintro _ w6 ⟨⟨⟩,x6⟩;have aa:Ext w w6:=V.trans x6;have O:Ext w3 w6:=N.trans x6;have h6:=h5.ext x6;cases hq2:GU p.params
   . try rw [hq2]
     refine Bh rfl rfl rfl Ab (C1 Pt (C1 MV (C1 Mv (A7 rfl rfl rfl (rfl) rfl (A7 rfl rfl rfl (rfl) rfl (A7 rfl rfl rfl (rfl) rfl (A7 rfl rfl rfl (rfl) rfl (C1 (B3 rfl rfl rfl) (Al (Ai (GX rfl (by rfl) ?_)))))))))));refine eK ?_;refine AW results68 rfl ?_;exact ⟨AZ (by simp [PG.ok,HN.out (by simp [PD.ok,hq2])]),aa⟩
   try rw [hq2]
   refine Bh rfl rfl rfl Ab (C1 Pt (C1 MV (C1 Mv (AP rfl rfl rfl (rfl) (C1 Pf (AP rfl rfl rfl (rfl) ?_))))));refine CB (by exact EC Ac rfl rfl rfl (by exact λwz hz=>by (try subst hz);assumption) (by rfl)) rfl ?_;refine AP rfl rfl rfl (rfl) (cC rfl (Qg p.body S ba bc _ wf.body (sb.ext O)) ?_);rintro _ w7 ⟨⟨⟩,x7⟩;have af:Ext w w7:=aa.trans x7;cases hq3:EW p.body
   . try rw [hq3]
     refine AP rfl rfl rfl (rfl) (C1 Pt (C1 (Bu rfl rfl rfl) (Al (Ai (GX rfl (by rfl) ?_)))));refine eK ?_;refine AW results68 rfl ?_;exact ⟨AZ (by simp [PG.ok,HN.out (by simp [PD.ok,hq3])]),af⟩
   try rw [hq3]
   have ag:p.ok=true:=by simp [PD.ok,hnm,hq2,hq3];omega
   refine AP rfl rfl rfl (rfl) (C1 Pt (C1 (Bu rfl rfl rfl) (Al (Ai (GY rfl (by rfl) ?_)))));refine eK ?_;refine Av (j+1) sB ⟨x3.trans (O.trans x7),Ab,λi hi ai=>?_⟩ Ab;by_cases e:i=j
   . subst e;exact HE.out▸ag
   . exact HA.out i hi Ab
 . have h3:=h2.ext x3;refine Aj (Ak (C1 V3 (Al (Ai (Aj (Dd (BF (Ay (Ay (AS (Ai ?_)))))))))));refine Aj (Ak (C1 Pf ?_));refine CB (by exact EC Ac rfl rfl rfl (by exact λwz hz=>by (try subst hz);assumption) (by rfl)) rfl ?_;refine cC rfl (Qg g.main S ma mc _ h.main (hs.main.ext G)) ?_;rintro _ w4 ⟨⟨⟩,x4⟩;refine eK ?_;refine AW results68 rfl ?_;refine ⟨AZ ?_,G.trans x4⟩;have:=RW (λi hi=>HA.out i hi Ab);simp [PG.ok,hq,this];omega
def Ju:∀l:List Nd,0<=Bs l
 | []=>by simp [Bs]
 | t::r=>by have:=Ju r;simp only [Bs];omega
mutual
def Tc:∀(t:Nd) (d m:Int),t.depth<=d->(t.size:Int)<=m->t.lim d m=(true,m-t.size)
 | .mk _ _ _ l,d,m,hd,hm=>by
  simp only [Nd.depth] at hd;simp only [mF] at hm;have h0:0<=Bs l:=Ju l;unfold Nd.lim;rw [AC Ab,LU l (d-1) (m-1) Ab Ab];simp only [mF];congr 1;omega
def LU:∀(l:List Nd) (d m:Int),Bs l<=d->(AY l:Int)<=m->CY l d m=(true,m-AY l)
 | [],d,m,_,_=>by simp [CY,AY]
 | t::r,d,m,hd,hm=>by
  simp only [Bs] at hd;simp only [AY] at hm;have h1:=Tc t d m Ab Ab;unfold CY;rw [h1];simp only [if_true];rw [LU r d _ Ab Ab];simp only [AY];congr 1;omega
end
mutual
def LV:∀(t:Nd) (d m:Int),0<=d->(t.lim d m).1=true->t.depth<=d
 | .mk _ _ s l,d,m,hd,h=>by
  simp only [Nd.lim] at h;split at h
  . simp at h
  . have:=Ix l (d-1) (m-1) Ab h;simp only [Nd.depth];omega
def Ix:∀(l:List Nd) (d m:Int),0<=d->(CY l d m).1=true->Bs l<=d
 | [],d,m,hd,_=>by simp only [Bs];exact hd
 | t::r,d,m,hd,h=>by
  simp only [CY] at h;split at h
  . rename_i ht;have h1:=LV t d m hd ht;have h2:=Ix r d _ hd h;simp only [Bs];omega
  . simp at h
end
mutual
def Ns:∀(t:Nd) (d m:Int),0<=m->(t.lim d m).1=true->(t.size:Int)+(t.lim d m).2<=m
 | .mk _ _ s l,d,m,hm,h=>by
  simp only [Nd.lim] at h ⊢;split at h
  . simp at h
  . rename_i hn;rw [AC hn];have:=Jv l (d-1) (m-1) Ab h;simp only [mF];omega
def Jv:∀(l:List Nd) (d m:Int),0<=m->(CY l d m).1=true->(AY l:Int)+(CY l d m).2<=m
 | [],d,m,hm,_=>by simp only [CY,AY];omega
 | t::r,d,m,hm,h=>by
  simp only [CY] at h ⊢;split at h
  . rename_i ht;rw [AT ht];have h1:=Ns t d m hm ht;have h0:=OI t d m hm;have h2:=Jv r d (t.lim d m).2 h0.1 h;simp only [AY];omega
  . simp at h
end
def body_iff {t:Nd}:EW t=true↔t.isBlock=true/\t.depth<=80/\t.size<=2000:=by
 constructor
 . intro h;simp only [EW,gD] at h;have G:=Ns t 80 2000 Ab h.1;have M:=OI t 80 2000 Ab;exact ⟨h.2,LV t 80 2000 Ab h.1,Ab⟩
 . rintro ⟨G,M,N⟩;simp only [EW,gD];refine ⟨?_,G⟩;rw [Tc t 80 2000 M Ab]
def EO (h:g.ok=true):g.vars.length<=32/\g.procs.length<=64/\GU g.vars=true/\(∀p∈g.procs,p.ok=true)/\EW g.main=true:=by
 simp only [PG.ok,gD,decide_eq_true_eq] at h;obtain ⟨⟨⟨⟨G,M⟩,N⟩,O⟩,U⟩:=h;exact ⟨G,M,N,iJ.1 O,U⟩
def Er {p:PD} (h:p.ok=true):Cl p.name=true/\p.params.length<=8/\GU p.params=true/\EW p.body=true:=by
 simp only [PD.ok,gD,decide_eq_true_eq] at h;obtain ⟨⟨⟨G,M⟩,N⟩,O⟩:=h;exact ⟨G,M,N,O⟩
def PD.map (f:Nd->Nd) (p:PD):PD:=⟨p.name,p.params,f p.body⟩
def PG.inv (f:Nd->Nd) (q:Bool) (g:PG):PG:=⟨g.vars,g.procs.map (PD.map f),g.main.inv q⟩
def Uy {f:Nd->Nd} (q:Bool) (h:g.wf) (G:g.ok=true) (N:∀p∈g.procs,(f p.body).wf):(g.inv f q).wf:=by
 obtain ⟨V,X,Y,Z,O⟩:=EO G;refine ⟨h.nv,by simpa [PG.inv] using h.np,h.vars,λp U=>?_,(aA q (g.main.size+1) g.main Ab (gB (body_iff.1 O).1)).wf h.main⟩;obtain ⟨x,M,rfl⟩:=List.mem_map.1 U;have:=h.procs x M;exact ⟨this.name,this.len,this.params,N x M⟩
def Qi (h:g.ok=true):g.main.isBlock=true:=(body_iff.1 (EO h).2.2.2.2).1
attribute [local irreducible] Go.Calls
def FM {b:Bool} (G:g.wf) (h:g.ok=b) (S:nP) (M:oA) (vc:Nat) (N:oA) (U:Nat) (O:oA) (V:Nat) (w:wD) (X:g.sits S w M N O) :
 Calls prog 68 #[.agg (g.cells M vc N U O V).toArray] w λe w'=>e = .returned (.bool b)/\Ext w w':=by
 have:=YG g S M vc N U O V w G X;rw [h] at this;exact this
def PG.sits.ltA {S:nP} {w:wD} {g:PG} {G M N:oA} (h:g.sits S w G M N):g.sits (· < w.heap.size) w G M N:=⟨h.vars.lt2.wide λ_ h=>h.2,h.procs.ltA,B6 _ _ h.main⟩
def RX (f:Nd->Nd) (l:List PD) (j:Nat) (h:j<l.length):(l.take (j+1)).map (PD.map f)=(l.take j).map (PD.map f)++[(l[j]).map f]:=by
 rw [gC h,jE];rfl
def LX (u:PG) (k:Int) (w:wD):Ending->wD->Prop:=λe w'=> ∃va vc pa pc ma mc,e = .returned (.tuple #[.agg (u.cells va vc pa pc ma mc).toArray,.int .i64 k])/\u.sits (λb=>w.heap.size<=b/\b<w'.heap.size) w' va pa ma/\PDsC (λb=>w.heap.size<=b/\b<w'.heap.size) w' u.procs pa/\u.vars.length<=vc/\Ext w w'
def PDsC.lt2 {S:nP} {w:wD} {l:List PD} {a:oA} (h:PDsC S w l a):PDsC (λb=>S b/\b<w.heap.size) w l a:=by
 rcases h with h|⟨b,o,N,O,M⟩
 . exact gA h
 . cases l with
   | nil=>exact gA rfl
   | cons v r=>
    obtain ⟨_,_,_,_,G,-,-⟩:=M 0 v rfl;refine gB ⟨b,o,N,⟨O,Ci (mE G rfl)⟩,λi x U=>?_⟩;obtain ⟨V,X,Y,Z,G,hv,hs,hc⟩:=M i x U;exact ⟨V,X,Y,Z,G,hv.lt2,Gb _ _ hs,hc⟩
def Wj {f:Nd->Nd} {q:Bool} {G O:oA} {vc:Nat} {xs:List PD} {Y S2:nP} (hx:xs=g.procs.map (PD.map f)) (hv:VDs Y w' g.vars G) (hc:g.vars.length<=vc) (ho:OwnL EN w' n e (.slice N xs.length r) xs) (hm:(g.main.inv q).sits S2 w' O) (X:Ext w w') (k1:∀b,Y b->w.heap.size<=b) (k2:∀b,S2 b->w.heap.size<=b) (kM:w.heap.size<=n) :
 LX (g.inv f q) 0 w (.returned (.tuple #[.agg #[.slice G g.vars.length vc,.slice N xs.length r,.int .u8 (g.main.inv q).kind,.int .i64 (g.main.inv q).num,str (g.main.inv q).name,.slice O (g.main.inv q).kids.length m],.int .i64 0])) w':=by
 subst hx;have Z:=PDsC.wide (PDsC.lt2 (ho.pdsC (S:=λb=>n<=b) (λb hb=>hb))) (S':=λb=>w.heap.size<=b/\b<w'.heap.size) λb h=>⟨Ab,h.2⟩
 exact ⟨G,vc,N,r,O,m,rfl,⟨hv.lt2.wide λb h=>⟨k1 b h.1,h.2⟩,Z.pds,mD (Gb _ _ hm) λb h=>⟨k2 b h.1,h.2⟩⟩,Z,hc,X⟩
def RY (q:Bool) (an:Nat) (f:Nd->Nd) (b5:BU prog an=true) (g:PG) (a7:g.wf) (a8:g.ok=true) (hf:g.few) (hm:g.main.isBlock=true)
 (HB:∀p∈g.procs,∀(S:nP) (a:oA) (c:Nat) (w:wD),p.body.sits S w a->Calls prog an #[p.body.val a c] w (CopyR (f p.body) w))
 (S:nP) (va:oA) (vc:Nat) (pa:oA) (pc:Nat) (ma:oA) (mc:Nat) (w:wD) (hs:g.sits S w va pa ma) :
 Calls prog 71 #[.agg (g.cells va vc pa pc ma mc).toArray,.func (.func an) #[] #[],.bool q] w (LX (g.inv f q) 0 w):=by
 have X:=Ne w;obtain ⟨nv,np,b6,a9⟩:=hf;have HV:=fZ (FM a7 a8);have HI:=fZ (Wd q g.main b6 (gB hm));have HC:=fZ (Hz g.vars Ab);have HP:=fZ HB;have HQ:=fZ a9;clear a7 a8 hm HB a9;have hs:=hs.ltA;refine Ad func71 ntmps71 rfl rfl ?_;refine cS (eB [_,_,_,_,_,_] ?_);intro b1 w2 h4 x5 p6 z7;revert X hs;refine eE x5 ?_;intro X hs;refine eA [_,_,_,_,_,_] ?_;intro b8 w9 M b7 eh ei;revert h4 X hs;refine eE b7 ?_;intro h4 X hs;refine kC (HV.out _ _ _ _ _ _ _ _ Af) ?_;rintro _ ba ⟨⟨⟩,b9⟩;revert M h4 X hs;refine eY b9 ?_;intro ej M h4 X hs;refine C1 Pt (cT (AO rfl (Am (Ai ?_))));refine ED (ι:=Nat×oA×Nat×oA×Nat) (λx=>[(1,.func (.func an) #[] #[]),(3,.pointer (some ⟨b1,0,none⟩)),(6,.pointer (some ⟨b8,0,none⟩)),(8,.pointer (some ⟨x.1,0,none⟩))])
  (λx w'=>Blk w' x.1 [.slice x.2.1 g.vars.length x.2.2.1,.slice none 0 0,.int .u8 (g.main.inv q).kind,.int .i64 (g.main.inv q).num,str (g.main.inv q).name,.slice x.2.2.2.1 (g.main.inv q).kids.length x.2.2.2.2]/\VDs (λb=>b8<b/\b≠x.1/\b<w'.heap.size) w' g.vars x.2.1/\(g.main.inv q).sits (λb=>b8<b/\b≠x.1/\b<w'.heap.size) w' x.2.2.2.1/\b8<x.1/\x.1<w'.heap.size/\g.vars.length<=x.2.2.1 /\
   Blk w' b1 [.slice va g.vars.length vc,.slice pa g.procs.length pc,.int .u8 g.main.kind,.int .i64 g.main.num,str g.main.name,.slice ma g.main.kids.length mc]/\Blk w' b8 [.slice none 0 0,.slice none 0 0,.int .u8 0,.int .i64 0,str [],.slice none 0 0]/\g.sits (· < w.heap.size) w' va pa ma/\Ext w w') ?_ ?_
 . clear HP HQ HV;have hv:=hs.vars;have O:=hs.main
   focus
    refine Ap (λwz=>Ext ba wz) 9 (.pure 0 (.pure 1 (.pure 3 (.pure 4 (.pure 5 (.fork 2 (.fork 6 (.pure 7 (.fork 8 .tail .none)) (.fork 8 (.fork 6 (.pure 7 .tail) .none) .none)) (.fork 8 (.fork 2 (.fork 6 (.pure 7 .tail) .none) .none) .none))))))) mixed AR (Aa Ag) ?_;intro cb bb _;have G:(λwz=>Ext ba wz) cb:=bb;simp only at G;have cc:=M;have bc:=h4;have cm:=hs;have cn:=hv;have cd:=O;revert M h4 X hs hv O;refine eY bb ?_;intro ek M h4 X hs hv O;refine ⟨G,?_⟩;refine eT ?_;refine Tq rfl (xL [_,_,_,_] (λwz hz=>(my bc hz))) (Tq rfl Mv ?_);refine Ax rfl (AM AR rfl (HC.out _ _ _ _ Af) (λ_ _ h=>h.ret)) rfl ?_ aFh ?kra5;rintro _ co ⟨el,em,⟨⟩,ac,ce,cp⟩;revert G M h4 X hs hv O;refine eY ce ?_;intro cq G M h4 X hs hv O;refine ⟨G,?_⟩;refine Ax rfl (AM AR rfl (HI.out _ _ _ _ Af) (λ_ _ h=>h.ret)) rfl ?_ aFh ?kra13;rintro _ cr ⟨ct,cu,⟨⟩,ag,bd⟩;revert ac G M h4 X hs hv O;refine eY bd ?_;intro cv ac G M h4 X hs hv O;refine ⟨G,?_⟩;refine Tq rfl (xB [_,_,_,_,_,_]) ?_;refine Ax rfl (A3 Ca rfl) rfl ?_ aFh Au;rintro _ cw ⟨cx,rfl,ah⟩;have av:=ah.blk;dsimp only at av;have be:=ah.ext;have cy:=ah.pos;have cz:=ah.size;revert ag ac G M h4 X hs hv O;refine eE be ?_;intro ag ac G M h4 X hs hv O;refine ⟨G,?_⟩;refine Aq rfl (eS [_,_,_,_,_,_] av ?_);intro c0 c1 bf c2;revert ag ac M h4 X hs hv O;refine eF bf ?_;intro ag ac M h4 X hs hv O;refine Al ?_;rotate_left;refine Ax rfl (A3 Ca rfl) rfl ?_ aFh Au;rintro _ c3 ⟨c4,rfl,ai⟩;have aj:=ai.blk;dsimp only at aj;have bg:=ai.ext;have c5:=ai.pos;have c6:=ai.size;revert ac G M h4 X hs hv O;refine eE bg ?_;intro ac G M h4 X hs hv O;refine ⟨G,?_⟩;refine tC rfl rfl (HI.out _ _ _ _ Af) ?_;rintro _ c7 ⟨c8,c9,⟨⟩,aw,bh⟩;revert aj ac G M h4 X hs hv O;refine eY bh ?_;intro da aj ac G M h4 X hs hv O;refine ⟨G,?_⟩;refine Tq rfl (xB [_,_,_,_,_,_]) ?_;refine Aq rfl (eS [_,_,_,_,_,_] aj ?_);intro db dc bi dd;revert aw ac M h4 X hs hv O;refine eF bi ?_
    intro aw ac M h4 X hs hv O;refine Al ?_;rotate_left;refine Ax rfl (A3 Ca rfl) rfl ?_ aFh Au;rintro _ de ⟨df,rfl,ak⟩;have ae:=ak.blk;dsimp only at ae;have bj:=ak.ext;have dg:=ak.pos;have dh:=ak.size;revert G M h4 X hs hv O;refine eE bj ?_;intro G M h4 X hs hv O;refine ⟨G,?_⟩;refine tC rfl rfl (HC.out _ _ _ _ Af) ?_;rintro _ di ⟨dk,dl,⟨⟩,al,bk,dm⟩;revert ae G M h4 X hs hv O;refine eY bk ?_;intro dn ae G M h4 X hs hv O;refine ⟨G,?_⟩;refine tC rfl rfl (HI.out _ _ _ _ Af) ?_;rintro _ dp ⟨dq,dr,⟨⟩,ax,bl⟩;revert al ae G M h4 X hs hv O;refine eY bl ?_;intro ds al ae G M h4 X hs hv O;refine ⟨G,?_⟩;refine Tq rfl (xB [_,_,_,_,_,_]) ?_;refine Aq rfl (eS [_,_,_,_,_,_] ae ?_);intro dt du bm dv;revert ax al M h4 X hs hv O;refine eF bm ?_;intro ax al M h4 X hs hv O;refine Al ?_;rotate_left
   . exact BC (_,_,_,_,_) sB ⟨Af,nA Af (λb h=>⟨Ab,Ab,Ab⟩),mD Af (λb h=>⟨Ab,Ab,Ab⟩),Ab,Ab,Af,Af,Af,Af,Af⟩
   . exact BC (_,_,_,_,_) sB ⟨Af,nA Af (λb h=>⟨Ab,Ab,Ab⟩),mD Af (λb h=>⟨Ab,Ab,Ab⟩),Ab,Ab,Af,Af,Af,Af,Af⟩
   . exact BC (_,_,_,_,_) sB ⟨Af,nA Af (λb h=>⟨Ab,Ab,Ab⟩),mD Af (λb h=>⟨Ab,Ab,Ab⟩),Ab,Ab,Af,Af,Af,Af,Af⟩
 . clear h4 M hs X;rintro ⟨bq,bn,cf,bo,cg⟩ w1 ⟨Z,V,Y,o1,o2,bp,aa,ab,hs,X⟩;simp only at Z V Y o1 o2 bp;have hp:=hs.procs;have hz:=gP w1.heap.size;clear hs HV HI HC;refine Aj (cS (C1 Pf (C1 (Pl aa) (C1 Pz (C1 Mv (cT (As ?_)))))));refine AF (ι:=Nat×List PD×oA×Nat) (λx=>[(1,.func (.func an) #[] #[]),(3,.pointer (some ⟨b1,0,none⟩)),(6,.pointer (some ⟨b8,0,none⟩)),(8,.pointer (some ⟨bq,0,none⟩)),(24,.slice pa g.procs.length pc),(25,.int .i64 g.procs.length),(26,.int .i64 x.1)])
    (λx w'=>OwnL EN w' w1.heap.size 116 (.slice x.2.2.1 x.2.1.length x.2.2.2) x.2.1/\x.2.1=(g.procs.take x.1).map (PD.map f)/\x.1<=g.procs.length/\Blk w' bq [.slice bn g.vars.length cf,.slice x.2.2.1 x.2.1.length x.2.2.2,.int .u8 (g.main.inv q).kind,.int .i64 (g.main.inv q).num,str (g.main.inv q).name,.slice bo (g.main.inv q).kids.length cg]/\VDs (λb=>b8<b/\b≠bq/\b<w1.heap.size) w' g.vars bn/\(g.main.inv q).sits (λb=>b8<b/\b≠bq/\b<w1.heap.size) w' bo /\
     Blk w' b1 [.slice va g.vars.length vc,.slice pa g.procs.length pc,.int .u8 g.main.kind,.int .i64 g.main.num,str g.main.name,.slice ma g.main.kids.length mc]/\Blk w' b8 [.slice none 0 0,.slice none 0 0,.int .u8 0,.int .i64 0,str [],.slice none 0 0]/\PDs (· < w.heap.size) w' g.procs pa/\Ext w w'/\w1.heap.size<=w'.heap.size)
    (λx=>g.procs.length-x.1) (0,[],none,0) sB ⟨OwnL.nil,AQ,gI _,Z,V,Y,aa,ab,hp,X,hz⟩ ?_
   clear Z V Y aa ab hp X hz;rintro ⟨j,xs,ra,rc⟩ w3 ⟨N,ao,hj,Z,V,Y,aa,ab,hp,X,hz⟩;simp only at N ao hj Z;have br:∀g',(iA ra xs.length rc).ownBlock=some g'->w1.heap.size<=g'/\g'<w3.heap.size:=λg' h=>⟨N.ge h,N.lt h⟩
   have en:xs.length<=1000000:=by rw [ao,jJ,iE];omega
   refine m7 (m:=[(1,.func (.func an) #[] #[]),(3,.pointer (some ⟨b1,0,none⟩)),(6,.pointer (some ⟨b8,0,none⟩)),(8,.pointer (some ⟨bq,0,none⟩)),(24,.slice pa g.procs.length pc),(25,.int .i64 g.procs.length),(26,.int .i64 (j:Int))]) ?_ sB;by_cases ar:j<g.procs.length
   . obtain ⟨kb,ko,rfl,kS,hk⟩:=mM hp Ab;obtain ⟨xa,xc,ya,yc,rx,vx,sx⟩:=hk j _ (fY ar);have HX:=fZ (HP.out _ (gK ar));have eo:=HQ.out _ (gK ar);have HC:=fZ (Hz g.procs[j].params Ab);have a1:xs++[(g.procs[j]).map f]=(g.procs.take (j+1)).map (PD.map f):=by rw [ao,RX f _ j ar]
     clear hk HP HQ ao;generalize g.procs[j]=x at *;refine eK ?_;refine xA [_,_,_,_,_,_] ?_;intro ep eq ch;refine eI [_,_,_,_,_,_] ch ?_;intro bs ad ci er et;revert N Z V Y ab X aa hp rx vx sx;refine eE ci ?_;intro N Z V Y ab X aa hp rx vx sx;refine cT (Ap (λwz=>Ext bs wz) 13 (.pure 0 (.pure 1 (.pure 2 (.pure 3 (.pure 4 (.pure 5 (.pure 7 (.pure 8 (.pure 9 (.fork 6 (.fork 10 (.pure 11 (.fork 12 .tail .none)) .none) .none)))))))))) mixed AR (Ae (Aa (Aa (Ae (Aa Ag))))) ?_);intro cj ay _;have U:(λwz=>Ext bs wz) cj:=ay;simp only at U;have ap:=ad;have au:=N;have a2:=Z;have a3:=V;have a4:=Y;have a5:=ab;have a6:=aa;have bt:=hp;have bu:=rx;have bv:=vx;have bw:=sx;revert ad N Z V Y ab X aa hp rx vx sx;refine eY ay ?_;intro dw ad N Z V Y ab X aa hp rx vx sx;refine ⟨U,?_⟩;refine eT ?_;refine Tq rfl (xL [_,_,_,_] (λwz hz=>(my ap hz))) ?_;refine tC rfl rfl (HC.out _ _ _ _ Af) ?_;rintro _ dx ⟨dy,dz,⟨⟩,af,bx,d0⟩;revert U ad N Z V Y ab X aa hp rx vx sx;refine eY bx ?_;intro d1 U ad N Z V Y ab X aa hp rx vx sx;refine ⟨U,?_⟩;refine Ax rfl (Bb (fi:=[]) (ca:=[]) b5 rfl rfl (HX.out _ _ _ _ Af) (λ_ _ h=>h.ret)) rfl ?_ aFh Au;rintro _ d2 ⟨d3,d4,⟨⟩,aq,bz⟩;revert af U ad N Z V Y ab X aa hp rx vx sx;refine eY bz ?_;intro d5 af U ad N Z V Y ab X aa hp rx vx sx;refine ⟨U,?_⟩;refine Tq rfl (xB [_,_,_,_,_,_]) ?_;refine Ax rfl (xS [_,_,_,_,_,_]) rfl ?_ aFh Au;rintro _ d6 ⟨d7,rfl,am,d8⟩;have b0:=am.blk;have b2:=am.ext;have d9:=am.pos;have ea:=am.size;revert aq af U ad N Z V Y ab X aa hp rx vx sx;refine eE b2 ?_;intro aq af U ad N Z V Y ab X aa hp rx vx sx;refine ⟨U,?_⟩;clear ap au a2 a3 a4 a5 a6 bt bu bv bw U;refine Aq rfl ?_;refine Az (GA (sh:=EN) (z:=x.map f) Ac Ca rfl rfl rfl rfl AR rfl rfl rfl Af (mJ Af) ⟨_,_,_,_,rfl,nA Af (λb h=>⟨Ab,λe=>by have:=br _ e;omega⟩),mD Af (λb h=>⟨Ab,λe=>by have:=br _ e;omega⟩),Af⟩ Ab Ab) rfl ?_ aFh;rintro _ eb ⟨ec,b4,rfl,az,a0⟩
     have ed:=a0.size;clear b0 aq af ad N;revert Z V Y ab X aa hp rx vx sx;refine eF a0 ?_;intro Z V Y ab X aa hp rx vx sx;refine C1 Pf (eV [_] [_,_,_,_,_,_] Z ?_);intro ee ef b3 eg;clear Z;revert az V Y ab X aa hp rx vx sx;refine eF b3 ?_;intro az V Y ab X aa hp rx vx sx;refine Al (Ah (Ai (Ak (C1 V7 (C1 Mv (Al ?_))))));exact Av (j+1,xs++[x.map f],some ⟨_,0,none⟩,_) sB ⟨Af,a1,by simp only;omega,Af,V,Y,aa,ab,hp,X,Ab⟩ (by simp only;omega)
   . have ck:j=g.procs.length:=by omega
     subst ck;rw [gL] at ao;refine eK ?_;refine eS [_,_,_,_,_,_] ab ?_;intro eu ew cl ex;revert N Z V Y aa hp X;refine eF cl ?_;intro N Z V Y aa hp X;refine C1 Pa (cT (AU ?_));refine Df rfl Ac rfl rfl rfl Af rfl rfl ?_;exact Wj ao V bp N Y X (λb h=>by omega) (λb h=>by omega) Ab
def OJ (h:g.ok=true):g.few:=by
 obtain ⟨U,V,-,G,M⟩:=EO h;obtain ⟨-,-,X⟩:=body_iff.1 M;refine ⟨Ab,Ab,Ab,λp N=>?_⟩;obtain ⟨-,Y,-,O⟩:=Er (G p N);obtain ⟨-,-,Z⟩:=body_iff.1 O;exact ⟨Ab,Ab⟩
def PG.inv_id (q:Bool) (g:PG):g.inv id q=⟨g.vars,g.procs,g.main.inv q⟩:=by
 unfold PG.inv;congr 1
 conv=>rhs;rw [<-List.map_id g.procs]
 refine List.map_congr_left λp _=>?_
 obtain ⟨a,b,c⟩:=p;rfl
def aJ (G:g.wf) (h:g.ok=true) (S:nP) (M:oA) (vc:Nat) (N:oA) (V:Nat) (O:oA) (X:Nat) (w:wD) (U:g.sits S w M N O) :
 Calls prog 71 #[.agg (g.cells M vc N V O X).toArray,.func (.func 59) #[] #[],.bool false] w (LX (g.inv id false) 0 w):=
 RY false 59 id AR g G h (OJ h) (Qi h) (λp Y S a c w U=>Jl p.body ((OJ h).procs p Y).2 S a c w U) S M vc N V O X w U
def Uz {u:PG} {M G:oA} {vc:Nat} (V:u.sits (λb=>m<=b/\b<n) w' M G N) (hp:PDsC (λb=>m<=b/\b<n) w' u.procs G) (hc:u.vars.length<=vc) (X:Ext w w') (hl:w.heap.size<=m) (hh:n<=w'.heap.size):LX u k w (.returned (.tuple #[.agg #[.slice M u.vars.length vc,.slice G u.procs.length r,.int .u8 u.main.kind,.int .i64 u.main.num,str u.main.name,.slice N u.main.kids.length e],.int .i64 k])) w':=
 ⟨M,vc,G,r,N,e,rfl,⟨V.vars.wide λb h=>by omega,PDs.wide V.procs λb h=>by omega,mD V.main λb h=>by omega⟩,PDsC.wide hp λb h=>by omega,hc,X⟩
def Qj (u g:PG) (Z:∀(S:nP) (N:oA) (vc:Nat) (O:oA) (pc:Nat) (U:oA) (mc:Nat) (w:wD),g.sits S w N O U ->
      Calls prog 71 #[.agg (g.cells N vc O pc U mc).toArray,.func (.func 59) #[] #[],.bool false] w (LX u k w))
 (S:nP) (N:oA) (vc:Nat) (O:oA) (pc:Nat) (U:oA) (mc:Nat) (w:wD) (M:g.sits S w N O U) :
 Calls prog 42 #[.agg (g.cells N vc O pc U mc).toArray] w (LX u k w):=by
 have X:=Ne w;have M:=M.ltA;have Z:=fZ Z;refine Ad func42 ntmps42 rfl rfl (cS (eB [_,_,_,_,_,_] ?_));intro b1 w2 h4 x5 p6 z7;revert X M;refine eE x5 ?_;intro X M;refine eA [_,_,_,_,_,_] ?_;intro b8 w9 G aa aj ak;revert h4 X M;refine eE aa ?_;intro h4 X M;refine eK ?_;refine Az (AM AR rfl (Z.out _ _ _ _ _ _ _ _ Af) (λ_ _ ⟨_,_,_,_,_,_,h⟩=>⟨_,h.1⟩)) rfl ?_ aFh;rintro _ al ⟨ad,ae,af,ag,ah,ai,⟨⟩,V,Y,am,ab⟩;revert G X;refine eE ab ?_;intro G X;refine eK ?_;refine eS [_,_,_,_,_,_] G ?_;intro an ao ac ap;revert V Y X;refine eF ac ?_;intro V Y X;refine eK ?_;refine Df rfl Ac rfl rfl rfl Af rfl rfl ?_;exact Uz Af Af Af X Ab Ab
def Qk (h:g.wf) (G:g.ok=true) (S:nP) (M:oA) (vc:Nat) (N:oA) (U:Nat) (O:oA) (V:Nat) (w:wD) (X:g.sits S w M N O) :
 Calls prog 42 #[.agg (g.cells M vc N U O V).toArray] w (LX (g.inv id false) 0 w):=Qj _ g (aJ h G) S M vc N U O V w X
def LenR (n:Nat) (w:wD):Ending->wD->Prop:=λe w'=> ∃a c,e = .returned (.slice a n c)/\Ext w w'
def LenR.ret {e:Ending} (h:LenR n w e w'):∃v,e = .returned v:=by
 obtain ⟨_,_,h,-⟩:=h;exact ⟨_,h⟩
def VDs.take {S:nP} {w:wD} {l:List VD} {a:oA} (h:VDs S w l a) (i:Nat):VDs S w (l.take i) a:=by
 rcases h with h|⟨b,o,M,N,O⟩
 . exact gA (by rw [h];simp)
 . refine gB ⟨b,o,M,N,λj v G=>O j v ?_⟩;rw [lP] at G;split at G
   . exact G
   . cases G
def J3 (ps:List PD) (K:Nat):∀(l:List PD) (i:Nat),(∀(i:Nat) (p:PD),p∈l->LS ps i p<=K)->DK ps i l<=l.length*K
 | [],_,_=>by simp [DK]
 | p::r,i,h=>by
  have G:=h i p AQ;have N:=J3 ps K r (i+1) (λi q M=>h i q (by simp [M]));unfold LS at G;simp only [DK,gH,kE];omega
def LY {w1:wD} {M:Value} (x:Fr (λk=>k=r\/v.ownBlock=some k) w w') (h:∀g,M.ownBlock=some g->v.ownBlock=some g\/w1.heap.size<=g) (O:w.heap.size<=w1.heap.size):Eff r w v w' M:=⟨x,λg N=>(h g N).imp id λh=>by omega⟩
def Ql {b:Nat} (h:Blk w b [v]) (G:mG v=true):PathAt (λ_=>True) w (some ⟨b,0,none⟩) 1 1:=⟨⟨gP _,λe=>by cases e⟩,[v],rfl,by simp [G],gB ⟨b,0,rfl,trivial,h.row⟩⟩
set_option maxHeartbeats 8000000 in
def Jw (g:PG) (ch:g.wf) (bs:g.ok=true) (S:nP) (va:oA) (vc:Nat) (pa:oA) (pc:Nat) (ma:oA) (mc:Nat) (w:wD) (hs:g.sits S w va pa ma) (G:PDsC S w g.procs pa) (ci:g.vars.length<=vc) :
 Calls prog 69 #[.agg (g.cells va vc pa pc ma mc).toArray] w (LenR g.flt w):=by
 have HV:=fZ (FM ch bs);have N:=hs.vars.ltV;have O:=B6 _ _ hs.main;have G:=G.ltA;have hs:=hs.ltA;have X:=Ne w;refine Ad func69 ntmps69 rfl rfl ?_;refine cS (eB [_,_,_,_,_,_] ?_);intro b1 w2 h4 x5 p6 z7;revert N O G hs X;refine eE x5 ?_;intro N O G hs X;refine eK ?_;refine cC rfl (HV.out _ _ _ _ _ _ _ _ Af) ?_;rintro _ w9 ⟨⟨⟩,x8⟩;revert h4 N O G X;refine eY x8 ?_;intro el h4 N O G X;refine eK ?_;refine eA [_] ?_;intro Y em bl cj en eo;revert h4 N O G X;refine eE cj ?_;intro h4 N O G X;refine cN (C1 (BW rfl) (xA [_] ?_));intro ae ep ck;refine eI [_] ck ?_;intro bm U cl eq er;revert bl h4 N O G X;refine eE cl ?_;intro bl h4 N O G X;refine cT (Aj (cS (C1 Pg (C1 (Pl h4) (C1 Pz (C1 Mv (cT ?_)))))));obtain ⟨o1,o2,-,o4,o5⟩:=EO bs;have cm:FS w.heap.size Y 0 bm (.slice none 0 0):=⟨bl,ni,by simp [kw],Ab⟩;have k1:Kp Y bm (.slice none 0 0) b1:=⟨Ab,Ab,by simp [kw]⟩;have kR:Kp Y bm (.slice none 0 0) ae:=⟨Ab,Ab,by simp [kw]⟩;refine As ?_;refine AF (ι:=Nat×Value) (λx=>[(1,.pointer (some ⟨b1,0,none⟩)),(3,.pointer (some ⟨Y,0,none⟩)),(4,.pointer (some ⟨ae,0,none⟩)),(16,.slice va g.vars.length vc),(17,.int .i64 g.vars.length),(18,.int .i64 x.1)])
  (λx w'=>x.1<=g.vars.length/\FS w.heap.size Y (Ck [] (g.vars.take x.1)) w' x.2/\Kp Y w' x.2 b1/\Kp Y w' x.2 ae/\Blk w' ae [LP Y]/\Blk w' b1 (g.cells va vc pa pc ma mc)/\VDs (· < w.heap.size) w' g.vars va/\g.main.sits (· < w.heap.size) w' ma/\PDsC (· < w.heap.size) w' g.procs pa/\Ext w w')
  (λx=>g.vars.length-x.1) (0,.slice none 0 0) sB ⟨gI _,cm,k1,kR,U,h4,N,O,G,X⟩ ?_
 rintro ⟨j,vj⟩ w3 ⟨hj,hF,k1,kR,U,h4,N,O,G,X⟩;simp only at hj hF k1 kR U h4 N O G X;by_cases al:j<g.vars.length
 . have V:∀q,vj.ownBlock=some q->w.heap.size<=q/\q<w3.heap.size/\q≠b1/\q≠ae:=λq hq=>⟨hF.own.ge hq,hF.own.lt hq,λe=>k1.2.2 (e▸hq),λe=>kR.2.2 (e▸hq)⟩
   have a0:=k1.not;have a1:=kR.not;have bt:=k1.1;have bn:=kR.1;have bg:=hF.cell.lt;obtain ⟨kb,ko,rfl,kS,au⟩:=N.get (by intro e;rw [e] at al;simp at al);have r0:=au j g.vars[j] (fY al);have bo:(g.vars.take j).length=j:=by simp;omega
   have cn:=Fg (g.vars.take j) [];have ag:=N.take j;have av:=fZ (OF (g.vars.take j) Ab g.vars[j].name);rw [bo] at av;have aw:=Hg g.vars [] j al;rw [kv] at aw;have ah:=fZ (λ(w':wD) (x:Ext w3 w') (S:nP) (qa:oA) (qn qc:Nat) (hq:qn<=1000000) (p:PathAt S w' qa qn qc)=>He w.heap.size Y (Ck [] (g.vars.take j)) vj (-1) (EU (g.vars.take j) g.vars[j].name) g.vars[j].name S qa qn qc w' Ab hq p (hF.ext x));rw [<-aw] at ah;have hm:(j:Int)=(j:Int):=rfl;generalize g.vars[j]=x at *;obtain ⟨xn,xk,xl⟩:=x;dsimp only at av ah;replace r0:Row w3 ⟨kb,ko+j*3,none⟩ [str xn,.int .u8 xk,.int .i64 xl]:=r0;generalize EU (g.vars.take j) xn=ex at *;unfold LP at U;have X3:=Ne w3;have X4:=mx (λk=>k=Y\/vj.ownBlock=some k) w3
   focus
    refine eK ?_;refine eA [_,_,_] ?_;intro et eu co cp ew ey;revert U O G X h4 N ag X3 X4;refine eE cp ?_;intro U O G X h4 N ag X3 X4;refine C1 Pa (eS [_,_,_] co ?_);intro bu bv bw de;revert U O G X h4 N ag X3 X4;refine eF bw ?_;intro U O G X h4 N ag X3 X4;refine cT (Ap (λwz=>Ext bu wz) 12 (.pure 0 (.pure 1 (.pure 3 (.pure 4 (.pure 5 (.pure 6 (.pure 7 (.pure 8 (.pure 9 (.pure 10 (.fork 2 (.fork 11 .tail .none) (.fork 11 (.fork 2 .tail .none) .none)))))))))))) mixed AR (Ae (Aa (Aa (Ae (Aa Ag))))) ?_);intro bx bh _;have ad:(λwz=>Ext bu wz) bx:=bh;simp only at ad;have bb:=bv;have bp:=U;have bi:=h4;revert U O G X h4 N ag X3 X4;refine eY bh ?_;intro df U O G X h4 N ag X3 X4;refine ⟨ad,?_⟩;refine eT ?_;refine Tq rfl (Dn Ac rfl rfl rfl rfl hm Ab) (Tq rfl Pg (Tq rfl (Db bb) ?_));refine Ax rfl (xS [_]) rfl ?_ aFh ?kra18;rintro _ dg ⟨dh,rfl,a3,di⟩;have a6:=a3.blk;dsimp only at a6;have bz:=a3.ext;have dk:=a3.pos;have dl:=a3.size;revert ad U O G X h4 N ag X3 X4;refine eE bz ?_;intro ad U O G X h4 N ag X3 X4;refine ⟨ad,?_⟩;refine tC rfl rfl (av.out _ _ _ _ ag) ?_;rintro _ dm ⟨⟨⟩,b0⟩;revert a6 ad U O G X h4 N X3 X4;refine eY b0 ?_;intro dn a6 ad U O G X h4 N X3 X4;refine ⟨ad,?_⟩;refine Aq rfl ?_;refine Az (Bb (fi:=[]) (ca:=[.pointer (some ⟨Y,0,none⟩)]) AR rfl rfl (ah.out _ Af _ _ _ _ Ab (Ql Af rfl)) (λ_ _ h=>h.ret)) rfl ?_ aFh;rintro _ dp ⟨⟨⟩,cq,dq,am,dr⟩;have U:=mu U am (a1);have O:=mr O am (λb hb h=>by (rcases h with h|h;omega;have:=V _ h;omega));have G:=PDsC.fr G am (λb hb h=>by (rcases h with h|h;omega;have:=V _ h;omega));have X:=mI X am (λk hk=>by (rcases hk with h|h;omega;have:=V _ h;omega));have h4:=mu h4 am (a0);have N:=m8 N am (λb hb h=>by (rcases h with h|h;omega;have:=V _ h;omega));have X4:=mB X4 am (λk hk=>gA hk);refine Al (Ah (Ai (Ak (C1 V7 (C1 Mv (Al ?_))))));rotate_left;refine tC rfl rfl (av.out _ _ _ _ ag) ?_;rintro _ ds ⟨⟨⟩,b2⟩
    revert ad U O G X h4 N X3 X4;refine eY b2 ?_;intro dt ad U O G X h4 N X3 X4;refine ⟨ad,?_⟩;refine Ax rfl (xS [_]) rfl ?_ aFh Au;rintro _ du ⟨dv,rfl,a4,dw⟩;have b3:=a4.blk;dsimp only at b3;have b4:=a4.ext;have dx:=a4.pos;have dy:=a4.size;revert ad U O G X h4 N X3 X4;refine eE b4 ?_;intro ad U O G X h4 N X3 X4;refine ⟨ad,?_⟩;refine Aq rfl ?_;refine Az (Bb (fi:=[]) (ca:=[.pointer (some ⟨Y,0,none⟩)]) AR rfl rfl (ah.out _ Af _ _ _ _ Ab (Ql Af rfl)) (λ_ _ h=>h.ret)) rfl ?_ aFh;rintro _ dz ⟨⟨⟩,cr,d0,an,d2⟩;have U:=mu U an (a1);have O:=mr O an (λb hb h=>by (rcases h with h|h;omega;have:=V _ h;omega));have G:=PDsC.fr G an (λb hb h=>by (rcases h with h|h;omega;have:=V _ h;omega));have X:=mI X an (λk hk=>by (rcases hk with h|h;omega;have:=V _ h;omega));have h4:=mu h4 an (a0);have N:=m8 N an (λb hb h=>by (rcases h with h|h;omega;have:=V _ h;omega));have X4:=mB X4 an (λk hk=>gA hk);refine Al (Ah (Ai (Ak (C1 V7 (C1 Mv (Al ?_))))));rotate_left
   . have e4:=LY X4 Af Ab;exact Av (j+1,_) sB ⟨by simp only;omega,Af,k1.eff e4,kR.eff e4,U,h4,N,O,G,X⟩ (by simp only;omega)
   . have e4:=LY X4 Af Ab;exact Av (j+1,_) sB ⟨by simp only;omega,Af,k1.eff e4,kR.eff e4,U,h4,N,O,G,X⟩ (by simp only;omega)
 . obtain rfl:j=g.vars.length:=by omega
   rw [gL] at hF;refine cS (C1 V3 (cT (Aj (Dd (BF (Ay (Ay (AS (Ai (Aj (cS ?_)))))))))));refine C1 Pf (C1 (Pl h4) (C1 Pz (C1 Mv (cT ?_))));refine As ?_;refine AF (ι:=Nat×Value) (λx=>[(1,.pointer (some ⟨b1,0,none⟩)),(3,.pointer (some ⟨Y,0,none⟩)),(4,.pointer (some ⟨ae,0,none⟩)),(38,.slice pa g.procs.length pc),(39,.int .i64 g.procs.length),(40,.int .i64 x.1)])
    (λx w'=>x.1<=g.procs.length/\FS w.heap.size Y (Ck [] g.vars+DK g.procs 0 (g.procs.take x.1)) w' x.2/\Kp Y w' x.2 b1/\Kp Y w' x.2 ae/\Blk w' ae [LP Y]/\Blk w' b1 (g.cells va vc pa pc ma mc)/\VDs (· < w.heap.size) w' g.vars va/\g.main.sits (· < w.heap.size) w' ma/\PDsC (· < w.heap.size) w' g.procs pa/\Ext w w')
    (λx=>g.procs.length-x.1) (0,vj) sB ⟨gI _,hF,k1,kR,U,h4,N,O,G,X⟩ ?_
   rintro ⟨j,vj⟩ w3 ⟨hj,hF,k1,kR,U,h4,N,O,G,X⟩;simp only at hj hF k1 kR U h4 N O G X;have cn:=Fg g.vars [];by_cases al:j<g.procs.length
   . have V:∀q,vj.ownBlock=some q->w.heap.size<=q/\q<w3.heap.size/\q≠b1/\q≠ae:=λq hq=>⟨hF.own.ge hq,hF.own.lt hq,λe=>k1.2.2 (e▸hq),λe=>kR.2.2 (e▸hq)⟩
     have a0:=k1.not;have a1:=kR.not;have bt:=k1.1;have bn:=kR.1;have bg:=hF.cell.lt;have b5:=J3 g.procs 2009 (g.procs.take j) 0 (λi p hp=>by
      obtain ⟨c1,c2,-,c4⟩:=Er (o4 p (jO hp));obtain ⟨-,-,c3⟩:=body_iff.1 c4;have h1:=Fg p.params [];have h2:=RU g.procs p.body p.params;unfold LS;split<;>omega)
     have ez:(g.procs.take j).length*2009<=64*2009:=kF _ (by simp;omega);have aw:=KL g.procs g.procs 0 j al;rw [iR] at aw;have ct:=Wh al;obtain ⟨c1,c2,-,c4⟩:=Er (o4 _ (gK al));obtain ⟨-,-,c3⟩:=body_iff.1 c4;have af:=G.pds;obtain ⟨kb,ko,rfl,kS,au⟩:=G.get (by intro e;rw [e] at al;simp at al);obtain ⟨qa,qc,ba,bc,r0,ab,ac,cu⟩:=au j g.procs[j] (fY al);have cv:=fZ (OG g Ab g.procs[j].name (· < w.heap.size) va vc (some ⟨kb,ko,none⟩) pc ma mc);generalize hM:Ck [] g.vars+DK g.procs 0 (g.procs.take j)=M at *;have e0:M<=1000000:=by omega
     generalize Gi g.procs g.procs[j].name=np at *;generalize g.procs[j]=x at *;refine eK ?_;refine eA [_] ?_;intro ap e1 bq cw e2 e3;revert U N O X h4 G af hF ab ac;refine eE cw ?_;intro U N O X h4 G af hF ab ac;refine eA [_,_,_,_,_,_] ?_;intro ax d3 a7 b6 d4 d5;revert bq U N O X h4 G af hF ab ac;refine eE b6 ?_;intro bq U N O X h4 G af hF ab ac;refine eS [_] bq ?_;intro d6 Z a8 d7;revert a7 U N O X h4 G af;refine eF a8 ?_;intro a7 U N O X h4 G af;have hF:=FS.fr hF a8 (λk hk=>⟨Ab,λe=>by have:=V _ e;omega⟩);revert ab ac;refine eF a8 ?_;intro ab ac;refine eS [_,_,_,_,_,_] a7 ?_;intro ak aa a9 d8;revert Z U N O X h4 G af;refine eF a9 ?_;intro Z U N O X h4 G af;have hF:=FS.fr hF a9 (λk hk=>⟨Ab,λe=>by have:=V _ e;omega⟩);revert ab ac;refine eF a9 ?_;intro ab ac;refine cT (Aj ?_);have aq:Kp Y ak vj ap:=⟨Ab,Ab,λe=>by have:=V _ e;omega⟩;have ar:Kp Y ak vj ax:=⟨Ab,Ab,λe=>by have:=V _ e;omega⟩;have k1:=k1.grow (w':=ak) Ab;have kR:=kR.grow (w':=ak) Ab;have ah:=fZ (λ(w':wD) (x':Ext ak w')=>He w.heap.size Y M vj j 22 x.name (λ_=>True) none 0 0 w' Ab Ab PathAt.nil (hF.ext x'));rw [show M+Oh 22=M+1 from rfl] at ah;refine Dv (ι:=Value) (λ_=>[(1,.pointer (some ⟨b1,0,none⟩)),(3,.pointer (some ⟨Y,0,none⟩)),(4,.pointer (some ⟨ae,0,none⟩)),(38,.slice (some ⟨kb,ko,none⟩) g.procs.length pc),(39,.int .i64 g.procs.length),(40,.int .i64 j),(7,.pointer (some ⟨ap,0,none⟩)),(8,.pointer (some ⟨ax,0,none⟩))]) (λv2 w'=>FS w.heap.size Y (M+(if np<(j:Int) then 1 else 0)) w' v2/\Kp Y w' v2 b1/\Kp Y w' v2 ae/\Kp Y w' v2 ap/\Kp Y w' v2 ax/\Blk w' ae [LP Y]/\Blk w' b1 (g.cells va vc (some ⟨kb,ko,none⟩) pc ma mc)/\VDs (· < w.heap.size) w' g.vars va/\g.main.sits (· < w.heap.size) w' ma/\PDsC (· < w.heap.size) w' g.procs (some ⟨kb,ko,none⟩)/\Ext w w'/\Blk w' ap [.int .i64 j]/\Blk w' ax (x.cells qa qc ba bc)/\VDs (· < w.heap.size) w' x.params qa/\x.body.sits (· < w.heap.size) w' ba) ?_ ?_
     . have X3:=Ne ak;have X4:=mx (λk=>k=Y\/vj.ownBlock=some k) ak;unfold LP at U
       focus
        refine Aj (Ap (λwz=>Ext ak wz) 5 (.pure 0 (.pure 1 (.pure 2 (.pure 4 (.fork 3 .tail .none))))) mixed AR (Aa (Aa (Ae (Aa (Aa (Ae (Aa Ag))))))) ?_);intro cx b7 _;have ay:(λwz=>Ext ak wz) cx:=b7;simp only at ay;have bd:=aa;have be:=Z;have bi:=h4;revert aa Z U N O X h4 G af hF ab ac X3 X4;refine eY b7 ?_;intro e5 aa Z U N O X h4 G af hF ab ac X3 X4;refine ⟨ay,?_⟩;refine Tq rfl (xL [_,_,_,_,_,_] (λwz hz=>(my bi hz))) ?_;refine eT ?_;refine tC rfl rfl (cv.out _ Af) ?_;rintro _ e6 ⟨⟨⟩,cy⟩;revert ay aa Z U N O X h4 G hF ab ac X3 X4;refine eY cy ?_;intro e7 ay aa Z U N O X h4 G hF ab ac X3 X4;refine ⟨ay,?_⟩;refine Aq rfl ?_;refine eK ?_;refine AA rfl (λcz=>?_) (λcz=>?_);refine eK ?_;refine Az (Bb (fi:=[]) (ca:=[.pointer (some ⟨Y,0,none⟩)]) AR rfl rfl (ah.out _ Af) (λ_ _ h=>h.ret)) rfl ?_ aFh;rintro _ d9 ⟨⟨⟩,c0,ea,ai,eb⟩;have aa:=mu aa ai (λh=>by (rcases h with h|h;omega;have:=V _ h;omega));have Z:=mu Z ai (λh=>by (rcases h with h|h;omega;have:=V _ h;omega));have U:=mu U ai (a1);have N:=m8 N ai (λb hb h=>by (rcases h with h|h;omega;have:=V _ h;omega));have O:=mr O ai (λb hb h=>by (rcases h with h|h;omega;have:=V _ h;omega));have X:=mI X ai (λk hk=>by (rcases hk with h|h;omega;have:=V _ h;omega));have h4:=mu h4 ai (a0);have G:=PDsC.fr G ai (λb hb h=>by (rcases h with h|h;omega;have:=V _ h;omega));have ab:=m8 ab ai (λb hb h=>by (rcases h with h|h;omega;have:=V _ h;omega));have ac:=mr ac ai (λb hb h=>by (rcases h with h|h;omega;have:=V _ h;omega));have X4:=mB X4 ai (λk hk=>gA hk);refine Al ?_;rotate_left;refine Am ?_;rotate_left
       . have e4:=LY X4 Af Ab;exact BC _ sB ⟨by rw [AT Af];assumption,k1.eff e4,kR.eff e4,aq.eff e4,ar.eff e4,U,h4,N,O,G,X,Z,aa,ab,ac⟩
       . exact BC vj sB ⟨by rw [AC Af];exact hF,k1.grow Ab,kR.grow Ab,aq.grow Ab,ar.grow Ab,U,h4,N,O,G,X,Z,aa,ab,ac⟩
     . rintro v2 w4 ⟨hF,k1,kR,aq,ar,U,h4,N,O,G,X,Z,aa,ab,ac⟩;obtain ⟨d1,br⟩:∃d1:Nat,d1=(if np<(j:Int) then 1 else 0):=⟨_,rfl⟩
       have ec:d1<=1:=by rw [br];split<;>omega
       rw [<-br] at hF;refine Aj (cS (C1 Pf (C1 (Pl aa) (C1 Pz (C1 Mv (cT ?_))))));refine As ?_;refine AF (ι:=Nat×Value) (λy=>[(1,.pointer (some ⟨b1,0,none⟩)),(3,.pointer (some ⟨Y,0,none⟩)),(4,.pointer (some ⟨ae,0,none⟩)),(38,.slice (some ⟨kb,ko,none⟩) g.procs.length pc),(39,.int .i64 g.procs.length),(40,.int .i64 j),(7,.pointer (some ⟨ap,0,none⟩)),(8,.pointer (some ⟨ax,0,none⟩)),(57,.slice qa x.params.length qc),(58,.int .i64 x.params.length),(59,.int .i64 y.1)])
        (λy w'=>y.1<=x.params.length/\FS w.heap.size Y (M+d1+Ck [] (x.params.take y.1)) w' y.2/\Kp Y w' y.2 b1/\Kp Y w' y.2 ae/\Kp Y w' y.2 ap/\Kp Y w' y.2 ax/\Blk w' ae [LP Y]/\Blk w' b1 (g.cells va vc (some ⟨kb,ko,none⟩) pc ma mc)/\VDs (· < w.heap.size) w' g.vars va/\g.main.sits (· < w.heap.size) w' ma/\PDsC (· < w.heap.size) w' g.procs (some ⟨kb,ko,none⟩)/\Ext w w'/\Blk w' ap [.int .i64 j]/\Blk w' ax (x.cells qa qc ba bc)/\VDs (· < w.heap.size) w' x.params qa/\x.body.sits (· < w.heap.size) w' ba)
        (λy=>x.params.length-y.1) (0,v2) sB ⟨gI _,hF,k1,kR,aq,ar,U,h4,N,O,G,X,Z,aa,ab,ac⟩ ?_
       rintro ⟨i,vi⟩ w5 ⟨hi,hF,k1,kR,aq,ar,U,h4,N,O,G,X,Z,aa,ab,ac⟩;simp only at hi hF k1 kR aq ar U h4 N O G X Z aa ab ac;have c5:=Fg (x.params.take i) [];have V:∀q,vi.ownBlock=some q->w.heap.size<=q/\q<w5.heap.size/\q≠b1/\q≠ae/\q≠ap/\q≠ax:=λq hq=>⟨hF.own.ge hq,hF.own.lt hq,λe=>k1.2.2 (e▸hq),λe=>kR.2.2 (e▸hq),λe=>aq.2.2 (e▸hq),λe=>ar.2.2 (e▸hq)⟩
       have a0:=k1.not;have a1:=kR.not;have bt:=k1.1;have bn:=kR.1;have c6:=aq.not;have c7:=ar.not;have e8:=ar.1;by_cases a5:i<x.params.length
       . obtain ⟨zb,zo,rfl,zS,au⟩:=ab.get (by intro e;rw [e] at a5;simp at a5);have r0:=au i x.params[i] (fY a5);have bo:(x.params.take i).length=i:=by simp;omega
         have ag:=ab.take i;have av:=fZ (OF (x.params.take i) Ab x.params[i].name);rw [bo] at av;have aw:=Hg x.params [] i a5;rw [kv] at aw;have b8:M+d1+Ck [] (x.params.take (i+1))=M+d1+Ck [] (x.params.take i)+Oh (EU (x.params.take i) x.params[i].name):=by rw [aw];omega
         have ah:=fZ (λ(w':wD) (x':Ext w5 w')=>He w.heap.size Y (M+d1+Ck [] (x.params.take i)) vi j (EU (x.params.take i) x.params[i].name) x.params[i].name (λ_=>True) none 0 0 w' Ab Ab PathAt.nil (hF.ext x'));rw [<-b8] at ah;have hm:(i:Int)=(i:Int):=rfl;generalize x.params[i]=y at *;obtain ⟨yn,yk,yl⟩:=y;dsimp only at av ah;replace r0:Row w5 ⟨zb,zo+i*3,none⟩ [str yn,.int .u8 yk,.int .i64 yl]:=r0;generalize EU (x.params.take i) yn=ex at *;unfold LP at U;have X3:=Ne w5;have X4:=mx (λk=>k=Y\/vi.ownBlock=some k) w5;refine eK ?_;refine eA [_,_,_] ?_;intro e9 fa c8 c9 fb fc;revert U h4 N O G X Z ac aa ab ag X3 X4;refine eE c9 ?_;intro U h4 N O G X Z ac aa ab ag X3 X4;refine C1 Pa (eS [_,_,_] c8 ?_);intro b9 cb cc ed;revert U h4 N O G X Z ac aa ab ag X3 X4;refine eF cc ?_;intro U h4 N O G X Z ac aa ab ag X3 X4;refine cT (Ap (λwz=>Ext b9 wz) 11 (.pure 0 (.pure 1 (.pure 2 (.pure 3 (.pure 4 (.pure 5 (.pure 6 (.pure 7 (.pure 8 (.pure 9 (.fork 10 .tail .none))))))))))) mixed AR (Ae (Aa (Aa (Ae (Aa (Ae (Aa (Aa (Ae (Aa Ag)))))))))) ?_);intro cd bj _;have ao:(λwz=>Ext b9 wz) cd:=bj;simp only at ao;have bf:=cb;have bp:=U;have be:=Z;have bd:=aa;revert U h4 N O G X Z ac aa ab ag X3 X4;refine eY bj ?_;intro ee U h4 N O G X Z ac aa ab ag X3 X4;refine ⟨ao,?_⟩;refine eT ?_;refine Tq rfl (Dn Ac rfl rfl rfl rfl hm Ab) (Tq rfl Pg (Tq rfl (Db bf) ?_));refine tC rfl rfl (av.out _ _ _ _ ag) ?_;rintro _ ef ⟨⟨⟩,bk⟩;have eg:=bk.size;revert ao U h4 N O G X Z ac aa ab X3 X4;refine eE bk ?_
         intro ao U h4 N O G X Z ac aa ab X3 X4;refine ⟨ao,?_⟩;refine Aq rfl ?_;refine Az (Bb (fi:=[]) (ca:=[.pointer (some ⟨Y,0,none⟩)]) AR rfl rfl (ah.out _ Af) (λ_ _ h=>h.ret)) rfl ?_ aFh;rintro _ eh ⟨⟨⟩,da,ei,aj,ej⟩;have U:=mu U aj (a1);have h4:=mu h4 aj (a0);have N:=m8 N aj (λb hb h=>by (rcases h with h|h;omega;have:=V _ h;omega));have O:=mr O aj (λb hb h=>by (rcases h with h|h;omega;have:=V _ h;omega));have G:=PDsC.fr G aj (λb hb h=>by (rcases h with h|h;omega;have:=V _ h;omega));have X:=mI X aj (λk hk=>by (rcases hk with h|h;omega;have:=V _ h;omega));have Z:=mu Z aj (c6);have ac:=mr ac aj (λb hb h=>by (rcases h with h|h;omega;have:=V _ h;omega));have aa:=mu aa aj (c7);have ab:=m8 ab aj (λb hb h=>by (rcases h with h|h;omega;have:=V _ h;omega));have X4:=mB X4 aj (λk hk=>gA hk);refine Al (Ah (Ai (Ak (C1 V7 (C1 Mv (Al ?_))))));have e4:=LY X4 Af Ab;exact Av (i+1,_) sB ⟨by simp only;omega,Af,k1.eff e4,kR.eff e4,aq.eff e4,ar.eff e4,U,h4,N,O,G,X,Z,aa,ab,ac⟩ (by simp only;omega)
       . obtain rfl:i=x.params.length:=by omega
         rw [gL] at hF c5;have az:=fZ (λ(w':wD) (x':Ext w5 w') (h1:x.body.sits (· < w.heap.size) w' ba) (h2:PDs (· < w.heap.size) w' g.procs (some ⟨kb,ko,none⟩)) (h3:VDs (· < w.heap.size) w' x.params qa)=>
          Qd w.heap.size Y Ab 108 [.pointer (some ⟨ae,0,none⟩),.pointer (some ⟨ap,0,none⟩)] AR _ (Uv w.heap.size Y ae ap j) g Ab va vc (some ⟨kb,ko,none⟩) pc ma mc (x.body.size+1)
           x.body x.params (· < w.heap.size) (λ_=>False) ba bc qa qc none 0 0 w' vi (M+d1+Ck [] x.params) Ab Ab Ab Ab h1 h2 h3 cu PathAt.nil
           (λb hb=>⟨by have:=x'.size;have:=X.size;omega,Ab,λe=>by have:=V _ e;omega⟩) (λ_ h=>h.elim) (hF.ext x') ⟨U.ext x',Z.ext x',kR.grow x'.size,aq.grow x'.size⟩)
         have ce:M+d1+Ck [] x.params+x.body.flt g.procs x.params=Ck [] g.vars+DK g.procs 0 (g.procs.take (j+1)):=by
          have db:d1=if (CD g.procs x.name).getD j<j then 1 else 0:=by
           rw [br];have h:=decide_eq_decide.1 ct;by_cases h1:np<(j:Int)
           . rw [AT h1,AT (h.1 h1)]
           . rw [AC h1,AC (λe=>h1 (h.2 e))]
          rw [aw,db,LS];omega
         rw [ce] at az;have af:=G.pds;have X3:=Ne w5;have X4:=mx (λk=>k=Y\/vi.ownBlock=some k) w5;refine eK ?_;refine C1 (BW rfl) (cC rfl (az.out _ Af Af Af Af) ?_);rintro _ fd ⟨⟨⟩,ek,fe,a2,ff⟩;have U:=mu U a2 (a1);have h4:=mu h4 a2 (a0);have N:=m8 N a2 (λb hb h=>by (rcases h with h|h;omega;have:=V _ h;omega));have O:=mr O a2 (λb hb h=>by (rcases h with h|h;omega;have:=V _ h;omega));have G:=PDsC.fr G a2 (λb hb h=>by (rcases h with h|h;omega;have:=V _ h;omega));have X:=mI X a2 (λk hk=>by (rcases hk with h|h;omega;have:=V _ h;omega));have X4:=mB X4 a2 (λk hk=>gA hk);refine Al (Ah (Ai (Ak (C1 V7 (C1 Mv (Al ?_))))));have e4:=LY X4 Af Ab;exact Av (j+1,_) sB ⟨by simp only;omega,Af,k1.eff e4,kR.eff e4,U,h4,N,O,G,X⟩ (by simp only;omega)
   . obtain rfl:j=g.procs.length:=by omega
     rw [gL] at hF;have V:∀q,vj.ownBlock=some q->w.heap.size<=q/\q<w3.heap.size/\q≠b1/\q≠ae:=λq hq=>⟨hF.own.ge hq,hF.own.lt hq,λe=>k1.2.2 (e▸hq),λe=>kR.2.2 (e▸hq)⟩
     have bn:=kR.1;have bg:=hF.cell.lt;obtain ⟨-,-,c3⟩:=body_iff.1 o5;have b5:=J3 g.procs 2009 g.procs 0 (λi p hp=>by
      obtain ⟨c1,c2,-,c4⟩:=Er (o4 p hp);obtain ⟨-,-,c3⟩:=body_iff.1 c4;have h1:=Fg p.params [];have h2:=RU g.procs p.body p.params;unfold LS;split<;>omega)
     have af:=G.pds;have az:=fZ (λ(w':wD) (x':Ext w3 w') (h1:g.main.sits (· < w.heap.size) w' ma) (h2:PDs (· < w.heap.size) w' g.procs pa) (h3:VDs (· < w.heap.size) w' g.vars va)=>
      Qd w.heap.size Y Ab 109 [.pointer (some ⟨ae,0,none⟩),.pointer (some ⟨b1,0,none⟩)] AR _ (Uw w.heap.size Y ae b1 g va vc pa pc ma mc) g Ab va vc pa pc ma mc (g.main.size+1)
       g.main g.vars (· < w.heap.size) (λ_=>False) ma mc va vc none 0 0 w' vj (Ck [] g.vars+DK g.procs 0 g.procs) Ab Ab Ab Ab h1 h2 h3 ci PathAt.nil
       (λb hb=>⟨by have:=x'.size;omega,Ab,λe=>by have:=V _ e;omega⟩) (λ_ h=>h.elim) (hF.ext x') ⟨U.ext x',h4.ext x',kR.grow x'.size,k1.grow x'.size⟩)
     rw [show Ck [] g.vars+DK g.procs 0 g.procs+g.main.flt g.procs g.vars=g.flt from rfl] at az;have X3:=Ne w3;refine eK ?_;refine C1 (BW rfl) (cC rfl (az.out _ Af Af Af Af) ?_);rintro _ fg ⟨⟨⟩,cf,cg,dc,fh⟩;have X:=mI X dc (λk hk=>by (rcases hk with h|h;omega;have:=V _ h;omega));refine cT ?_;have dd:∃a c,cf = .slice a g.flt c:=by
      obtain ⟨fj,h1,-⟩:=cg.own.ex;rw [List.length_replicate] at h1;rcases h1.row with ⟨h2,h0,-⟩|⟨q,cap,h2,-⟩
      . exact ⟨none,0,by rw [h2,h0]⟩
      . exact ⟨_,_,h2⟩
     have hc:=cg.cell;obtain ⟨ra,rc,rfl⟩:=dd;refine eK ?_;refine xR ?_;exact ⟨_,_,rfl,X⟩
def KM {x:Nd}:∀ {l:List Nd},x∈BX l -> ∃t∈l,x∈t.walk
 | [],h=>by simp [BX] at h
 | t::r,h=>by
  simp only [BX,jA] at h;rcases h with h|h
  . exact ⟨t,AQ,h⟩
  . obtain ⟨u,G,M⟩:=KM h;exact ⟨u,by simp [G],M⟩
def UA {n:Int} {s:lB} {l:List Nd} (h:(Nd.mk k n s l).good):∀x∈l,x.good:=by
 intro x G;rcases h with h|h|h
 . cases Cg h with
   | call _ _ _ U=>exact gB (gB (Gw (iJ.1 U x G)))
   | upd _ M N=>simp only [gT,iX,or_false] at G;rcases G with rfl|rfl<;>first|exact gB (gB (Be Af))|exact gB (gB Af)
   | swap M N=>simp only [gT,iX,or_false] at G;rcases G with rfl|rfl<;>exact gB (gB (Be Af))
   | stack _ _ M=>simp only [gT,iX,or_false] at G;rw [G];exact gB (gB (Be M))
   | tape _ M=>simp only [gT,iX,or_false] at G;rw [G];exact gB (gB (Be M))
   | branch _ M N V X=>simp only [gT,iX,or_false] at G;rcases G with rfl|rfl|rfl|rfl<;>first|exact gB (gB Af)|exact gB (gA Af)
   | local_ _ M N V=>simp only [gT,iX,or_false] at G;rcases G with rfl|rfl|rfl<;>first|exact gB (gB Af)|exact gB (gA Af)
   | lstack _ M=>simp only [gT,iX,or_false] at G;rw [G];exact gB (gA M)
 . obtain ⟨e,O⟩:=DU h;simp only [Nd.kids] at O;exact gA (rowStmt_iff.1 O x G)
 . exact gB (gB ((JY h).2.1 x G))
def UB (N:Nat):∀t:Nd,t.size<N->t.good->t.wf -> ∀x∈t.walk,x.good/\x.wf/\x.size<=t.size:=by
 induction N with
 | zero=>intro t h;omega
 | succ N X=>
  rintro ⟨k,n,s,l⟩ Y V M x G;rw [Nd.walk,gT] at G;rcases G with rfl|G
  . exact ⟨V,M,gP _⟩
  . obtain ⟨t,O,U⟩:=KM G;have hs:=CA O;simp only [mF] at Y ⊢;obtain ⟨Z,h2,h3⟩:=X t Ab (UA V t O) (BN (by simp only [Nd.wf] at M;exact M.2.2.2.2.2.2) t O) x U;exact ⟨Z,h2,Ab⟩
def LZ {t:Nd} (h:t.isBlock=true) (G:t.wf):∀x∈t.walk,x.good/\x.wf/\x.size<=t.size:=UB (t.size+1) t Ab (gB (gA h)) G
def Jy {P:Program} {l:Sl} {tab:Tab} {zt:Ee} {ty:TypeId} {y:Operand} {t B c d:Nat} {a:oA} {sE:Sk} {zs:lV} {ys:List Int} (T:TabOk P tab) (Z:Cj P zt) (ht:AB tab t=some (.slice e,r)) (hE:AB tab e=some (sE,4)) (hz:CC zt e=some zs) (hzl:zs.length=4)
 (hby:Dk P e=true) (hx:ev l x=some (.slice a xs.length c)) (hy:ev l y=some (.slice N ys.length d)) (hox:OwnQ rejShape w (λ_=>False) B e (.slice a xs.length c) xs) (hoy:OwnQ rejShape w (λ_=>False) m e (.slice N ys.length d) ys) (hxn:xs=[]->a=none/\c=0) (hyn:ys=[]->N=none/\d=0) (hlen:xs.length+ys.length<=10000000000) (hB:B<=w.heap.size) :
 BG P n l (.call ⟨.builtin .append,#[x,y],#[t,t]⟩) ty w (FQ λo w'=> ∃a2 c2,o = .slice a2 (xs++ys).length c2/\OwnQ rejShape w' (λ_=>False) B e (.slice a2 (xs++ys).length c2) (xs++ys)/\Fr (λk=>(iA a xs.length c).ownBlock=some k) w w'/\(xs++ys=[]->a2=none/\c2=0)):=by
 by_cases b:ys=[]
 . obtain ⟨rfl,rfl⟩:=hyn b;subst b;rw [lw];obtain ⟨i,hi,hs⟩:=(T _ _ _ hE).info;have hun:=(T _ _ _ ht).under;have key:(Builtin.append_ #[t,t] ty #[.slice a xs.length c,.slice none 0 0]).run P w = .ok (.slice a xs.length c) w:=by
    obtain ⟨css,h1,-⟩:=hox.ex;exact run_append_owned_none (P:=P) w B t ty e i 4 hun hi _ xs.length css.flatten h1
   unfold BG;intro act dst pos after g next Q ha hn _;have e1:(execOp act.eval ⟨dst,.call ⟨.builtin .append,#[x,y],#[t,t]⟩,ty,pos,after,g⟩).run P w = .ok (.value (.slice a xs.length c)) w:=by
    simp only [iM] at hy;simp only [execOp,resolve,invoke,builtin,gO,hH,jL,lW,iO,lg,ha.ev hx,ha.ev hy,key]
   unfold km;rw [e1];exact hn _ _ ⟨a,c,rfl,hox,mx _ _,hxn⟩
 . obtain ⟨css,h1,h2,h3⟩:=hox.ex;obtain ⟨cys,k1,k2,k3⟩:=hoy.ex;have hpos:0<ys.length:=List.length_pos_iff.2 b;rcases k1.row with ⟨-,h0,-⟩|⟨g,cap,hv,-,-,hr⟩
   . omega
   simp only [iF] at hv;obtain ⟨rfl,-,-⟩:=hv;have hone:cys.flatten.all mG=true:=by
    rw [iJ];intro u hu;obtain ⟨cs,hcs,hu⟩:=List.mem_flatten.1 hu;obtain ⟨j,hj,rfl⟩:=List.mem_iff_getElem.1 hcs;have:=rejShape.one (k3 j ys[j] cys[j] (fY Ab) (fY hj));exact iJ.1 this u hu
   have hd:=DV (P:=P) (n:=n) (l:=l) (ty:=ty) T Z ht hE hz hzl hby rfl hx hy h1 hr k1.1 hone Ab Ab hB;unfold BG at hd ⊢;intro act dst pos after gd next Q ha hn f;refine hd act dst pos after gd next Q ha (λv' w' hG=>?_) (λw' hG=>hG.elim);obtain ⟨g1,g2,g',cap',rfl,g4⟩:=hG;refine hn _ w' ⟨some ⟨g',0,none⟩,cap',by rw [gR],⟨css++cys,by rw [lm,gR];exact g1,by simp [h2,k2],λj z ds hz hd=>?_⟩,g2,λe=>by simp [b] at e⟩;by_cases hj:j<xs.length
   . rw [gN hj] at hz;rw [gN Ab] at hd;exact h3 j z ds hz hd
   . rw [gU Ab] at hz;rw [gU Ab,h2] at hd;exact k3 _ z ds hz hd
def Da (ps:List PD):List Int:=ps.flatMap λp=>Ce p.body.walk
def PG.errs (g:PG):List Int:=if g.flt=0 then Da g.procs++Ce g.main.walk else []
def Qm {j:Nat} (h:j<ps.length):Da (ps.take (j+1))=Da (ps.take j)++Ce (ps[j]).body.walk:=by
 unfold Da;rw [gC h,kh];simp
def L0 (K:Nat):∀ps:List PD,(∀p∈ps,p.body.size<=K)->(Da ps).length<=ps.length*K
 | [],_=>by simp [Da]
 | p::r,h=>by
  have N:=L0 K r (λq G=>h q (by simp [G]));have M:=GL p.body.walk;rw [Hc] at M;have O:=h p AQ;have e:Da (p::r)=Ce p.body.walk++Da r:=by simp [Da]
  rw [e,gR,gH,kE];omega
set_option maxHeartbeats 8000000 in
def Qo (g:PG) (aa:g.wf) (ah:g.ok=true) (S:nP) (va:oA) (vc:Nat) (pa:oA) (pc:Nat) (ma:oA) (mc:Nat) (w:wD) (Y:g.sits S w va pa ma) (G:PDsC S w g.procs pa) (al:g.vars.length<=vc) :
 Calls prog 70 #[.agg (g.cells va vc pa pc ma mc).toArray] w (ChkR g.errs w):=by
 have HV:=fZ (FM aa ah);have HS:=fZ (λS va vc pa pc ma mc w Y hp hv=>Jw g aa ah S va vc pa pc ma mc w Y hp hv);obtain ⟨o1,o2,-,o4,o5⟩:=EO ah;have G:=G.ltA;have Y:=Y.ltA;have X:=Ne w;by_cases hf:g.flt=0
 . have he:g.errs=Da g.procs++Ce g.main.walk:=AT hf;rw [he];rw [hf] at HS;have N:=Y.main;obtain ⟨b1,-,b3⟩:=body_iff.1 o5;have HM:=fZ (Ta (-1) g.main Ab (λx hx=>by
    obtain ⟨h1,h2,h3⟩:=LZ b1 aa.main x hx;exact ⟨h1,h2,Ab⟩))
   refine Ad func70 ntmps70 rfl rfl (cS (eB [_,_,_,_,_,_] ?_));intro b1 w2 O x5 p6 z7;revert G Y X N;refine eE x5 ?_;intro G Y X N;refine kC (HV.out _ _ _ _ _ _ _ _ Af) ?_;rintro _ w9 ⟨⟨⟩,x8⟩;revert O G Y X N;refine eE x8 ?_;intro O G Y X N;refine kQ (HS.out _ _ _ _ _ _ _ _ Af Af al) ?_;rintro _ bk ⟨bl,bm,⟨⟩,au⟩;revert O G X N;refine eE au ?_;intro O G X N;refine AP rfl rfl rfl (rfl) (C1 Pz (AP rfl rfl rfl (rfl) (C1 V5 (C1 (Bu rfl rfl rfl) (cT (MS (Am (Ai (cS (C1 Pa (cT (Aj (cS (C1 Pf (C1 (Pl O) (C1 Pz (C1 Mv (cT ?_))))))))))))))))));refine As ?_;refine AF (ι:=Nat×oA×Nat) (λy=>[(1,.pointer (some ⟨b1,0,none⟩)),(3,.slice y.2.1 (Da (g.procs.take y.1)).length y.2.2),(16,.slice pa g.procs.length pc),(17,.int .i64 g.procs.length),(18,.int .i64 y.1)])
    (λy w'=>y.1<=g.procs.length/\OwnQ rejShape w' (λ_=>False) (w.heap.size+1) 140 (.slice y.2.1 (Da (g.procs.take y.1)).length y.2.2) (Da (g.procs.take y.1))/\(Da (g.procs.take y.1)=[]->y.2.1=none/\y.2.2=0)/\Blk w' b1 (g.cells va vc pa pc ma mc)/\PDsC (· < w.heap.size) w' g.procs pa/\g.main.sits (· < w.heap.size) w' ma/\Ext w w')
    (λy=>g.procs.length-y.1) (0,none,0) sB ⟨gI _,ni,λ_=>⟨rfl,rfl⟩,O,G,N,X⟩ ?_
   rintro ⟨j,ra,rc⟩ w3 ⟨hj,M,ab,O,G,N,X⟩;simp only at hj M ab O G N X;have U:∀q,(iA ra (Da (g.procs.take j)).length rc).ownBlock=some q->w.heap.size+1<=q/\q<w3.heap.size:=λq hq=>⟨M.ge hq,M.lt hq⟩
   have av:=L0 2000 (g.procs.take j) (λp hp=>(body_iff.1 (Er (o4 p (jO hp))).2.2.2).2.2);have aw:(g.procs.take j).length*2000<=64*2000:=kF _ (by simp;omega);have bn:=O.lt;by_cases Z:j<g.procs.length
   . obtain ⟨kb,ko,rfl,kS,am⟩:=G.get (by intro e;rw [e] at Z;simp at Z);obtain ⟨qa,qc,ba,bc,r0,-,ac,-⟩:=am j g.procs[j] (fY Z);obtain ⟨d1,-,d3⟩:=body_iff.1 (Er (o4 _ (gK Z))).2.2.2;have ax:=Qm Z;have ai:=GL (g.procs[j]).body.walk;rw [Hc] at ai;have HC:=fZ (Ta j (g.procs[j]).body Ab (λx hx=>by
      obtain ⟨h1,h2,h3⟩:=LZ d1 (aa.procs _ (gK Z)).body x hx;exact ⟨h1,h2,Ab⟩))
     generalize g.procs[j]=x at *;generalize Ce x.body.walk=ys at *;generalize hE:Da (g.procs.take j)=E at *;refine eK ?_;refine eA [_,_,_,_,_,_] ?_;intro bo bp ay az bq br;revert N X O G ac M;refine eE az ?_;intro N X O G ac M;refine C1 Pa (eS [_,_,_,_,_,_] ay ?_);intro bs a3 ad a4;revert N X O G ac;refine eF ad ?_;intro N X O G ac;have M:=nx M ad (λk hk=>⟨id,λe=>by have:=U _ e;omega⟩);refine kQ (HC.out _ _ _ _ Af) ?_;rintro _ a5 ⟨a6,a7,⟨⟩,a8,an,a9⟩;revert N X O G M;refine eY an ?_;intro bb N X O G M;refine Az (Jy Ac Ca rfl rfl rfl rfl AR rfl rfl Af Af ab Af Ab Ab) rfl ?_ aFh;rintro _ bd ⟨aj,ak,rfl,ae,V,af⟩;have N:=mr N V (λb hb h=>by have:=U _ h;omega);have X:=mI X V (λk hk=>by have:=U _ hk;omega);have O:=mu O V (λh=>by have:=U _ h;omega);have G:=PDsC.fr G V (λb hb h=>by have:=U _ h;omega);refine C1 Pa (Al (Ah (Ai (Ak (C1 V7 (C1 Mv (Al ?_)))))));rw [<-ax] at ae af ⊢;exact Av (j+1,aj,ak) sB ⟨by simp only;omega,ae,af,O,G,N,X⟩ (by simp only;omega)
   . obtain rfl:j=g.procs.length:=by omega
     rw [gL] at M ab av U;refine m7 (m:=[(1,.pointer (some ⟨b1,0,none⟩)),(3,.slice ra (Da g.procs).length rc),(16,.slice pa g.procs.length pc),(17,.int .i64 g.procs.length),(18,.int .i64 g.procs.length)]) ?_ (An rfl (BO rfl (by simp only [gL]) (An rfl (An rfl (An rfl BE)))));have ai:=GL g.main.walk;rw [Hc] at ai;rw [gL] at aw;generalize Ce g.main.walk=ys at *;generalize hE:Da g.procs=E at *;rw [hE] at *;refine kQ (HM.out _ _ _ _ Af) ?_;rintro _ bt ⟨bu,bv,⟨⟩,bw,a0,bx⟩;revert X M;refine eY a0 ?_;intro bz X M;refine Az (Jy Ac Ca rfl rfl rfl rfl AR rfl rfl Af Af ab Af Ab Ab) rfl ?_ aFh;rintro _ be ⟨bf,bg,rfl,ag,ao,ap⟩;have X:=mI X ao (λk hk=>by have:=U _ hk;omega);refine kR ?_;exact ⟨_,_,rfl,OwnQ.below ag (λk hk=>by have:=ag.ge hk;omega),X,ap⟩
 . have he:g.errs=[]:=AC hf;rw [he];refine Ad func70 ntmps70 rfl rfl (cS (eB [_,_,_,_,_,_] ?_));intro b0 b2 aq a1 _ _;revert G Y X;refine eE a1 ?_;intro G Y X;refine kC (HV.out _ _ _ _ _ _ _ _ Af) ?_;rintro _ b4 ⟨⟨⟩,a2⟩;revert aq G Y X;refine eE a2 ?_;intro aq G Y X;refine kQ (HS.out _ _ _ _ _ _ _ _ Af Af al) ?_;rintro _ bh ⟨bi,bj,⟨⟩,ar⟩;have X:=X.ext ar;refine kR ?_;all_goals exact ⟨none,0,rfl,ni,X,λ_=>⟨rfl,rfl⟩⟩
def PG.acc (g:PG):Prop:=g.ok=true/\g.flt=0/\g.errs=[]
def cZ (g:PG) (N:g.wf) (S:nP) (va:oA) (vc:Nat) (V:oA) (pc:Nat) (ma:oA) (mc:Nat) (w:wD) (M:g.sits S w va V ma) (G:PDsC S w g.procs V) (Y:g.vars.length<=vc) :
 Calls prog 41 #[.agg (g.cells va vc V pc ma mc).toArray] w λe w'=> ∃q,e = .returned (.bool q)/\(q=true↔g.acc)/\Ext w w':=by
 have X:=Ne w;have M:=M.ltA;have G:=G.ltA;cases hok:g.ok
 . have Z:=fZ (FM N hok);have hn:¬g.acc:=λh=>by rw [h.1] at hok;cases hok
   refine Ad func41 ntmps41 rfl rfl (cS (eB [_,_,_,_,_,_] ?_));intro b1 w2 h4 x5 _ _;revert X M;refine eE x5 ?_;intro X M;refine kC (Z.out _ _ _ _ _ _ _ _ Af) ?_;rintro _ w9 ⟨⟨⟩,x8⟩;have X:=X.ext x8;refine kR ?_;exact ⟨_,rfl,⟨(λh=>nomatch h),λh=>absurd h hn⟩,X⟩
 have Z:=fZ (FM N hok);have HC:=fZ (λw1 h1 h2=>Jw g N hok (· < w.heap.size) va vc V pc ma mc w1 h1 h2 Y);have HE:=fZ (λw1 h1 h2=>Qo g N hok (· < w.heap.size) va vc V pc ma mc w1 h1 h2 Y);by_cases h0:g.flt=0
 . rw [h0] at HC;have hq:g.acc↔g.errs.length=0:=⟨λh=>by rw [h.2.2];rfl,λh=>⟨hok,h0,kq h⟩⟩;rw [hq];generalize g.errs=xs at *;by_cases hx:xs.length=0
   . refine Ad func41 ntmps41 rfl rfl ?_;refine cS (eB [_,_,_,_,_,_] ?_);intro a8 a9 O ag _ _;revert X M G;refine eE ag ?_;intro X M G;refine kC (Z.out _ _ _ _ _ _ _ _ Af) ?_;rintro _ ba ⟨⟨⟩,ah⟩;revert O X M G;refine eE ah ?_;intro O X M G;refine kQ (HC.out _ Af Af) ?_;rintro _ am ⟨an,ao,⟨⟩,aa⟩;revert O X M G;refine eE aa ?_;intro O X M G;refine kQ (HE.out _ Af Af) ?_;rintro _ ap ⟨aq,ar,⟨⟩,au,ab,av⟩;have X:=X.ext ab;refine kR ?_;exact ⟨_,rfl,by simp [hx],X⟩
   . refine Ad func41 ntmps41 rfl rfl ?_;refine cS (eB [_,_,_,_,_,_] ?_);intro bb bc U ai _ _;revert X M G;refine eE ai ?_;intro X M G;refine kC (Z.out _ _ _ _ _ _ _ _ Af) ?_;rintro _ bd ⟨⟨⟩,aj⟩;revert U X M G;refine eE aj ?_;intro U X M G;refine kQ (HC.out _ Af Af) ?_;rintro _ aw ⟨ax,ay,⟨⟩,ac⟩;revert U X M G;refine eE ac ?_;intro U X M G;refine kQ (HE.out _ Af Af) ?_;rintro _ az ⟨a0,a1,⟨⟩,a2,ad,a3⟩;have X:=X.ext ad;refine kR ?_;exact ⟨_,rfl,by simp [hx],X⟩
 . have hn:¬g.acc:=λh=>h0 h.2.1
   have a4:0<g.flt:=Nat.pos_of_ne_zero h0;generalize g.flt=nf at *;refine Ad func41 ntmps41 rfl rfl (cS (eB [_,_,_,_,_,_] ?_));intro be bf ae ak _ _;revert X M G;refine eE ak ?_;intro X M G;refine kC (Z.out _ _ _ _ _ _ _ _ Af) ?_;rintro _ bg ⟨⟨⟩,al⟩;revert ae X M G;refine eE al ?_;intro ae X M G;refine kQ (HC.out _ Af Af) ?_;rintro _ a5 ⟨a6,a7,⟨⟩,af⟩;have X:=X.ext af;refine kR ?_;exact ⟨_,rfl,⟨(λh=>nomatch h),λh=>absurd h hn⟩,X⟩
structure EX where
 name:lB
 points:Int
 fuel:Int
 box:BoxV
 g:PG
def EX.cells (e:EX) (va:oA) (vc:Nat) (pa:oA) (pc:Nat) (ma:oA) (mc:Nat):lV:=
 [str e.name,.int .i64 e.points,.int .i64 e.fuel,.int .i64 e.box.v,.int .i64 e.box.l,.int .i64 e.box.i,.slice va e.g.vars.length vc,.slice pa e.g.procs.length pc,.int .u8 e.g.main.kind,.int .i64 e.g.main.num,str e.g.main.name,.slice ma e.g.main.kids.length mc]
def PG.pinv (g:PG):PG:=⟨g.vars,g.procs,g.main.inv false⟩
def EX.num (e:EX):Prop:=Cl e.name=true/\(1<=e.points/\e.points<=1000)/\0<=e.fuel/\e.fuel<=1000000
instance (e:EX):Decidable e.num:=by unfold EX.num;infer_instance
instance (g:PG):Decidable g.acc:=by unfold PG.acc;infer_instance
def EX.valid (e:EX):Prop:=e.num/\e.g.acc/\e.g.pinv.acc/\(G7 e.g.vars e.box).2=0/\(G7 e.g.vars e.box).1<=65536
instance (e:EX):Decidable e.valid:=by unfold EX.valid;infer_instance
def PG.pinv_eq (g:PG):g.pinv=g.inv id false:=(PG.inv_id false g).symm
def PG.pinv_wf (h:g.wf) (G:g.ok=true):g.pinv.wf:=by
 rw [PG.pinv_eq];exact Uy false h G (λp M=>(h.procs p M).body)
def OK {P:Program} {l:Sl} {S:wD->Prop} {ty t t':TypeId} {y:Operand} {a b m:Int} (G:ev l x=some (.int .i64 a)) (M:ev l y=some (.int .i64 b)) (N:min a b=m):Bm P n l S (.call ⟨.builtin .min,#[x,y],#[t,t']⟩) ty (.int .i64 m):=by
 unfold Bm;intro c w O pos after g h _;have e:(if b<a then b else a)=m:=by rw [<-N];split<;>omega
 simp [execOp,resolve,invoke,builtin,Builtin.min_,Builtin.min2,h.ev G,h.ev M,e]
def Nt (x y:Int) (h:1<=x/\x<=1099511627777) (U:1<=y/\y<=1099511627777) (w:wD) :
 Calls prog 73 #[.int .i64 x,.int .i64 y] w λe w'=>e = .returned (.int .i64 (FI x y))/\Ext w w':=by
 have X:=Ne w;have V:(1099511627776:Int).tdiv y=1099511627776/y:=Int.tdiv_eq_ediv_of_nonneg Ab;have h2:0<=(1099511627776:Int)/y:=Int.ediv_nonneg Ab Ab;have h3:(1099511627776:Int)/y<=1099511627776:=Int.ediv_le_self _ Ab;have G:kN .i64 ((1099511627776:Int).tdiv y)=1099511627776/y:=by rw [V];exact gG _ Ab
 have Y:y≠0:=by omega
 by_cases M:1099511627776/y<x
 . rw [show FI x y=1099511627777 by unfold FI;rw [AT M]];generalize (1099511627776:Int)/y=q at *;refine Ad func73 ntmps73 rfl rfl (eK ?_);refine C1 (Hv rfl rfl Af G) (kR ?_);exact ⟨rfl,X⟩
 . have N:=Oq h.1 h.2 U.1;have e:FI x y=x*y:=by unfold FI;rw [AC M]
   rw [e] at N ⊢;obtain ⟨m,O⟩:∃m,x*y=m:=⟨_,rfl⟩;rw [O] at N ⊢;have Z:kN .i64 (x*y)=m:=by rw [O];exact gG _ Ab
   generalize (1099511627776:Int)/y=q at *;refine Ad func73 ntmps73 rfl rfl (eK ?_);refine C1 (Hv rfl rfl Af G) (eK ?_);refine C1 (Hu rfl rfl Z) (kR ?_);exact ⟨rfl,X⟩
def Qp (p:Int×Int) (y:Int) (hp:0<=p.1/\p.1<=1000) (hq:0<=p.2/\p.2<=1000) (V:1<=y/\y<=1099511627777) (w:wD) :
 Calls prog 74 #[.agg #[.int .i64 p.1,.int .i64 p.2],.int .i64 y] w λe w'=>e = .returned (.int .i64 (LH p y))/\Ext w w':=by
 have X:=Ne w;obtain ⟨G,ab⟩:=p;simp only at hp hq;unfold LH;obtain ⟨N,rfl⟩:=Int.eq_ofNat_of_zero_le hq.1;rw [show ((N:Int)+1).toNat=N+1 by omega];have HS:=fZ (λn=>Ot G y V.1 n);have HP:=fZ (λn=>Os G y V.1 n);have HC:=fZ (λx h w1=>Nt x y h V w1);have HZ:=fZ (λn=>show LG G y (n+1)=(if G<=n then min ((LG G y n).1+(LG G y n).2) 1099511627777 else (LG G y n).1,FI (LG G y n).2 y) from rfl);refine Ad func74 ntmps74 rfl rfl (cS (Dl [_,_] rfl rfl rfl ?_));intro b1 w2 n3;have M:=n3.blk;dsimp only at M;have x5:=n3.ext;have X:=X.ext x5;refine C1 Pa (cN (C1 Pa (C1 Pa (cT (Aj (cS (C1 Pf (C1 (Pl M) (C1 V7 (C1 Mv (cT ?_)))))))))));refine As ?_;refine AF (ι:=Nat) (λj=>[(1,.int .i64 y),(2,.pointer (some ⟨b1,0,none⟩)),(5,.int .i64 (LG G y j).1),(6,.int .i64 (LG G y j).2),(10,.int .i64 ((N:Int)+1)),(11,.int .i64 j)])
  (λj w'=>j<=N+1/\Blk w' b1 [.int .i64 G,.int .i64 N]/\Ext w w') (λj=>N+1-j) 0 sB ⟨gI _,M,X⟩ ?_
 rintro j w1 ⟨hj,M,X⟩;by_cases ac:j<N+1
 . have hs:=HS.out j;have O:=HP.out j;have U:=HZ.out j;have Y:=fZ (HC.out _ O);generalize LG G y j=r at *;obtain ⟨r1,r2⟩:=r;simp only at hs O U Y;by_cases hl:G<=(j:Int)
   . rw [AT hl] at U;refine eK ?_;refine C1 (OK rfl rfl rfl) (kC (Y.out _) ?_);rintro _ ad ⟨⟨⟩,Z⟩;revert M X;refine eE Z ?_;intro M X;refine C1 Pa (Al (Ah (Ai (Ak (C1 V7 (C1 Mv (Al ?_)))))));exact Av (j+1) (by rw [U];(refine An rfl ?_;refine An rfl ?_;refine An rfl ?_;refine An rfl ?_;refine An rfl ?_;refine An rfl ?_;exact BE)) ⟨Ab,Af,X⟩ Ab
   . rw [AC hl] at U;refine kC (Y.out _) ?_;rintro _ ae ⟨⟨⟩,aa⟩;revert M X;refine eE aa ?_;intro M X;refine C1 Pa (Al (Ah (Ai (Ak (C1 V7 (C1 Mv (Al ?_)))))));exact Av (j+1) (by rw [U];(refine An rfl ?_;refine An rfl ?_;refine An rfl ?_;refine An rfl ?_;refine An rfl ?_;refine An rfl ?_;exact BE)) ⟨Ab,Af,X⟩ Ab
 . obtain rfl:j=N+1:=by omega
   generalize (LG G y (N+1)).1=s at *;refine kR ?_;exact ⟨rfl,X⟩
def EF:Shape (List Int) where
 sz:=1
 rep:=λw S xs cs=> ∃a c,cs=[.slice a xs.length c]/\Rows S w (AX xs) a
 len:=λ⟨_,_,h,_⟩=>by rw [h];rfl
 one:=λ⟨_,_,h,_⟩=>by rw [h];rfl
 mono:=λ⟨a,c,h,h2⟩ hS hc=>⟨a,c,h,h2.move hS (λb o v hb h=>hc b o v hb h)⟩
 lt:=λ⟨a,c,h,h2⟩=>⟨a,c,h,h2.lt2⟩
def OwnQ.ics {R:nP} {B:Nat} {a:oA} {len cap:Nat} {xs:List (List Int)} (h:OwnQ EF w R B e (.slice a len cap) xs) (U:∀b,R b->S b) (V:∀b,B<=b->b<w.heap.size->S b):ICs S w xs a:=by
 by_cases M:xs=[]
 . exact gA M
 . obtain ⟨g,N,O,X,Y,G⟩:=h.rows M;simp only [iF] at O;obtain ⟨rfl,-,-⟩:=O;refine gB ⟨g,0,rfl,V g X Y,λi x Z=>?_⟩;obtain ⟨cs,hr,a,c,rfl,h2⟩:=G i x Z;exact ⟨a,c,by simpa [EF] using hr,h2.wide U⟩
def FX {a:oA} (h:Rows S w (AX xs) a):IntsAt w xs a:=h.wide λ_ _=>trivial
def OwnI.rowsI {B:Nat} {a:oA} {c:Nat} (h:OwnI w B (.slice a n c) xs) (O:∀k,(iA a n c).ownBlock=some k->S k):Rows S w (AX xs) a:=by
 rcases h.open with ⟨G,M⟩|⟨g,cap,zs,G,M,U,V,X⟩
 . subst M;exact gA rfl
 . simp only [iF] at G;obtain ⟨rfl,-,-⟩:=G;refine gB ⟨g,0,rfl,O g rfl,λi v N=>?_⟩;exact (U.blk.row) i v (by rw [gN];exact N;exact (List.getElem?_eq_some_iff.1 N).1)
def SvR (s:SV) (w:wD):Ending->wD->Prop:=λe w'=> ∃a c ta tc oa oc,e = .returned (.agg (s.row a c ta tc oa oc).toArray)/\s.sits (λb=>w.heap.size<=b/\b<w'.heap.size) w' a ta oa/\Ext w w'
def SvR.ret {s:SV} {e:Ending} (h:SvR s w e w'):∃v,e = .returned v:=by
 obtain ⟨_,_,_,_,_,_,h,-⟩:=h;exact ⟨_,h⟩
def CloneS (xs:List Int) (w:wD):Ending->wD->Prop:=λe w'=> ∃a c,e = .returned (.slice a xs.length c)/\Rows (λb=>w.heap.size<=b/\b<w'.heap.size) w' (AX xs) a/\Ext w w'
def CloneS.ret {e:Ending} (h:CloneS xs w e w'):∃v,e = .returned v:=by
 obtain ⟨_,_,h,-⟩:=h;exact ⟨_,h⟩
def Hh (xs:List Int) (G:xs.length<=1000000) (S:nP) (a:oA) (c:Nat) (w:wD) (h:Rows S w (AX xs) a):Calls prog 88 #[.slice a xs.length c] w (CloneS xs w):=
 (Fo xs G a c w (FX h)).mono λ_ _ ⟨a,c,h1,h2,h3,h4⟩=>⟨a,c,h1,h2.rowsI h3,h4⟩
def J6 (s:SV) (S:nP) (a ta oa:oA) (c tc oc:Nat) (w:wD) (hn:s.cells.length<=1000000) (hc:∀xs∈s.cells,xs.length<=1000000) (ht:s.tin.length<=1000000) (ho:s.tout.length<=1000000) (hv:s.sits S w a ta oa) :
 Calls prog 50 #[.agg (s.row a c ta tc oa oc).toArray] w (SvR s w):=by
 have X:=Ne w;have hv:=hv.ltA;obtain ⟨cells,ag,tout⟩:=s;obtain ⟨G,ae,Y⟩:=hv;simp only at G ae Y hn hc ht ho;have H1:=fZ (λw1 h=>Hh ag ht (· < w.heap.size) ta tc w1 h);have H2:=fZ (λw1 h=>Hh tout ho (· < w.heap.size) oa oc w1 h);have HC:=fZ hc;clear hc;change Calls prog _ #[.agg #[.slice a cells.length c,.slice ta ag.length tc,.slice oa tout.length oc]] w _;refine Ad func50 ntmps50 rfl rfl ?_;refine cS (eB [_,_,_] ?_);intro b1 w2 h4 x5 p6 z7;revert X G ae Y;refine eE x5 ?_;intro X G ae Y;refine eA [_,_,_] ?_;intro b8 w9 N bi dh di;revert h4 X G ae Y;refine eE bi ?_;intro h4 X G ae Y;refine cT ?_;refine ED (ι:=Nat×oA×Nat×oA×Nat) (λx=>[(1,.pointer (some ⟨b1,0,none⟩)),(2,.pointer (some ⟨b8,0,none⟩)),(3,.pointer (some ⟨x.1,0,none⟩))])
  (λx w'=>Blk w' x.1 [.slice none 0 0,.slice x.2.1 ag.length x.2.2.1,.slice x.2.2.2.1 tout.length x.2.2.2.2]/\Rows (λb=>b8<b/\b≠x.1/\b<w'.heap.size) w' (AX ag) x.2.1/\Rows (λb=>b8<b/\b≠x.1/\b<w'.heap.size) w' (AX tout) x.2.2.2.1/\b8<x.1/\x.1<w'.heap.size/\Blk w' b1 [.slice a cells.length c,.slice ta ag.length tc,.slice oa tout.length oc]/\Blk w' b8 [.slice none 0 0,.slice none 0 0,.slice none 0 0]/\ICs (· < w.heap.size) w' cells a/\Ext w w') ?_ ?_
 . focus
    refine Ap (λwz=>Ext w9 wz) 8 (.pure 0 (.pure 1 (.pure 3 (.pure 4 (.fork 2 (.fork 5 (.pure 6 (.fork 7 .tail .none)) (.fork 7 (.fork 5 (.pure 6 .tail) .none) .none)) (.fork 7 (.fork 2 (.fork 5 (.pure 6 .tail) .none) .none) .none)))))) mixed AR (Aa Ag) ?_;intro bj ay _;have M:(λwz=>Ext w9 wz) bj:=ay;simp only at M;have bp:=h4;revert N h4 X G ae Y;refine eY ay ?_;intro dk N h4 X G ae Y;refine ⟨M,?_⟩;refine eT ?_;refine Ax rfl (AM AR rfl (H1.out _ Af) (λ_ _ h=>h.ret)) rfl ?_ aFh ?kra5;rintro _ br ⟨dl,dm,⟨⟩,ad,bk⟩;revert M N h4 X G Y;refine eY bk ?_;intro bs M N h4 X G Y;refine ⟨M,?_⟩;refine Ax rfl (AM AR rfl (H2.out _ Af) (λ_ _ h=>h.ret)) rfl ?_ aFh ?kra12;rintro _ bt ⟨bu,bv,⟨⟩,ai,az⟩;revert ad M N h4 X G;refine eY az ?_;intro bw ad M N h4 X G;refine ⟨M,?_⟩;refine Tq rfl (xB [_,_,_]) ?_;refine Ax rfl (A3 Ca rfl) rfl ?_ aFh Au;rintro _ bx ⟨bz,rfl,aj⟩;have ar:=aj.blk;dsimp only at ar;have a0:=aj.ext;have b0:=aj.pos;have b2:=aj.size;revert ai ad M N h4 X G;refine eE a0 ?_;intro ai ad M N h4 X G;refine ⟨M,?_⟩;refine Aq rfl (eS [_,_,_] ar ?_);intro b3 b4 a3 b5;revert ai ad N h4 X G;refine eF a3 ?_;intro ai ad N h4 X G;refine Al ?_;rotate_left;refine Ax rfl (A3 Ca rfl) rfl ?_ aFh Au;rintro _ b6 ⟨b7,rfl,ak⟩;have al:=ak.blk;dsimp only at al;have a4:=ak.ext;have b9:=ak.pos;have ca:=ak.size;revert ad M N h4 X G Y;refine eE a4 ?_;intro ad M N h4 X G Y;refine ⟨M,?_⟩;refine tC rfl rfl (H2.out _ Af) ?_;rintro _ cb ⟨cc,cd,⟨⟩,au,a5⟩;revert al ad M N h4 X G;refine eY a5 ?_;intro ce al ad M N h4 X G;refine ⟨M,?_⟩;refine Tq rfl (xB [_,_,_]) ?_;refine Aq rfl (eS [_,_,_] al ?_);intro cf cg a6 ch;revert au ad N h4 X G;refine eF a6 ?_;intro au ad N h4 X G;refine Al ?_;rotate_left;refine Ax rfl (A3 Ca rfl) rfl ?_ aFh Au;rintro _ ci ⟨cj,rfl,am⟩;have af:=am.blk;dsimp only at af;have a7:=am.ext;have ck:=am.pos;have cl:=am.size
    revert M N h4 X G ae Y;refine eE a7 ?_;intro M N h4 X G ae Y;refine ⟨M,?_⟩;refine tC rfl rfl (H1.out _ Af) ?_;rintro _ cm ⟨cn,co,⟨⟩,an,a8⟩;revert af M N h4 X G Y;refine eY a8 ?_;intro cp af M N h4 X G Y;refine ⟨M,?_⟩;refine tC rfl rfl (H2.out _ Af) ?_;rintro _ cq ⟨cr,ct,⟨⟩,av,a9⟩;revert an af M N h4 X G;refine eY a9 ?_;intro cu an af M N h4 X G;refine ⟨M,?_⟩;refine Tq rfl (xB [_,_,_]) ?_;refine Aq rfl (eS [_,_,_] af ?_);intro cv cw ba cx;revert av an N h4 X G;refine eF ba ?_;intro av an N h4 X G;refine Al ?_;rotate_left
   all_goals exact BC (_,_,_,_,_) sC ⟨Af,nd Af (λb h=>⟨Ab,by simp only;omega,Ab⟩),nd Af (λb h=>⟨Ab,by simp only;omega,Ab⟩),by simp only;omega,by simp only;omega,Af,Af,Af,X⟩
 . clear h4 N G ae Y X H1 H2;rintro ⟨bq,a1,c1,a2,c2⟩ w1 ⟨Z,U,V,o1,o2,bb,aa,G,X⟩;simp only at Z U V o1 o2;refine Aj (cS (C1 Pg (C1 (Pl bb) (C1 Pz (C1 Mv (cT ?_))))));refine As ?_;refine AF (ι:=Nat) (λj=>[(1,.pointer (some ⟨b1,0,none⟩)),(2,.pointer (some ⟨b8,0,none⟩)),(3,.pointer (some ⟨bq,0,none⟩)),(14,.slice a cells.length c),(15,.int .i64 cells.length),(16,.int .i64 j)])
    (λj w'=> ∃ra rc,j<=cells.length/\OwnQ EF w' (λb=>w1.heap.size<=b) w1.heap.size 43 (.slice ra (cells.take j).length rc) (cells.take j)/\Blk w' bq [.slice ra (cells.take j).length rc,.slice a1 ag.length c1,.slice a2 tout.length c2]/\Rows (λb=>b8<b/\b≠bq/\b<w1.heap.size) w' (AX ag) a1/\Rows (λb=>b8<b/\b≠bq/\b<w1.heap.size) w' (AX tout) a2/\Blk w' b8 [.slice none 0 0,.slice none 0 0,.slice none 0 0]/\ICs (· < w.heap.size) w' cells a/\Ext w w'/\w1.heap.size<=w'.heap.size)
    (λj=>cells.length-j) 0 sB ⟨none,0,gI _,ni,Z,U,V,aa,G,X,gP _⟩ ?_
   clear Z U V aa G X bb;rintro j w3 ⟨ra,rc,hj,O,Z,U,V,aa,G,X,hz⟩;have ah:∀g',(iA ra (cells.take j).length rc).ownBlock=some g'->w1.heap.size<=g'/\g'<w3.heap.size:=λg' h=>⟨O.ge h,O.lt h⟩
   have dn:(cells.take j).length<=1000000:=by rw [iE];omega
   by_cases aq:j<cells.length
   . have O:=O.ltR;obtain ⟨db,dp,rfl,dS,hd⟩:=G.get (by intro e;subst e;simp at aq);obtain ⟨xa,xc,ry,bc⟩:=hd j _ (fY aq);have HX:=fZ (λw1 (h:Rows (· < w.heap.size) w1 (AX cells[j]) xa)=>Hh cells[j] (HC.out _ (gK aq)) (· < w.heap.size) xa xc w1 h);have ap:cells.take j++[cells[j]]=cells.take (j+1):=(gC aq).symm;clear hd HC;generalize cells[j]=x at *;generalize cells.take j=ys at *;refine eK ?_;refine Ap (λwz=>Ext w3 wz) 5 (.pure 0 (.pure 1 (.pure 2 (.fork 3 (.fork 4 .tail .none) .none)))) mixed AR (Ae (Aa (Aa (Ae (Aa Ag))))) ?_;intro bl bd _;have ab:(λwz=>Ext w3 wz) bl:=bd;simp only at ab;have bm:=Z;revert U V aa X G bc Z O;refine eY bd ?_;intro dq U V aa X G bc Z O;refine ⟨ab,?_⟩;refine eT ?_;refine tC rfl rfl (HX.out _ Af) ?_;rintro _ cy ⟨dr,ds,⟨⟩,be,bn⟩;revert ab U V aa X G Z O;refine eY bn ?_;intro cz ab U V aa X G Z O;refine ⟨ab,?_⟩;refine Ax rfl (xS [_]) rfl ?_ aFh Au;rintro _ c0 ⟨c3,rfl,ao,c4⟩;have c5:=ao.blk;have bf:=ao.ext;have c6:=ao.pos;have c7:=ao.size;revert be ab U V aa X G Z O;refine eE bf ?_;intro be ab U V aa X G Z O;refine ⟨ab,?_⟩;refine Aq rfl (C9 (R:=λb=>w1.heap.size<=b) (sh:=EF) (z:=x) Ac Ca rfl rfl rfl rfl AR rfl rfl rfl Af (λ_ h=>by exact h.1) (mJ Af) ⟨_,_,rfl,nd Af (λb h=>by (try dsimp only at h);exact ⟨Ab,λe=>by have:=ah _ e;omega⟩)⟩ Ab Ab rfl ?_)
     rintro c8 bg c9 aw da dc ac;have dd:=ac.size;have U:=mT U ac (λb hb hT=>by have:=ah _ hT;(try dsimp only at hb);omega);have V:=mT V ac (λb hb hT=>by have:=ah _ hT;(try dsimp only at hb);omega);have aa:=mu aa ac (λe=>by have:=ah _ e;omega);have X:=mI X ac (λk hk=>by have:=ah _ hk;omega);have G:=ICs.fr G ac (λb hb hT=>by have:=ah _ hT;(try dsimp only at hb);omega);clear ry;have Z:=mu Z ac (λe=>by have:=ah _ e;omega);clear O ac;refine C1 Pg (eV [_] [_,_,_] Z ?_);intro de df ax dg;clear Z;have aw:=nx aw ax (λk hk=>⟨λh=>by (try dsimp only at hk h);omega,λe=>by have:=nB Af e;(try dsimp only at hk);omega⟩);revert U V aa X G;refine eF ax ?_;intro U V aa X G;refine Al (Ah (Ai (Ak (C1 V7 (C1 Mv (Al ?_))))));exact Av (j+1) sB ⟨some ⟨_,0,none⟩,_,Ab,by rw [<-ap];assumption,by rw [<-ap];assumption,U,V,aa,G,X,Ab⟩ Ab
   . obtain rfl:j=cells.length:=by omega
     rw [gL] at *;refine eK ?_;refine eS [_,_,_] aa ?_;intro dt bo bh du;revert U V X;refine eF bh ?_;intro U V X;have O:=nx O bh (λk hk=>⟨λh=>by (try dsimp only at hk h);omega,λe=>by have:=nB Af e;(try dsimp only at hk);omega⟩);refine kX bo ?_;exact ⟨_,_,_,_,_,_,rfl,⟨O.ltR.ics (λb h=>⟨Ab,Ab⟩) (λb h1 h2=>⟨Ab,h2⟩),U.wide (λb h=>⟨Ab,Ab⟩),V.wide (λb h=>⟨Ab,Ab⟩)⟩,X⟩
def eL {α:Type} (c:α->Value) (S:nP) (w:wD) (l:List α) (a:oA):Prop:=Arr S 1 (λw b o x=>Row w ⟨b,o,none⟩ [c x]) w l a
section
variable {α:Type} {c:α->Value} {S' T:nP} {l:List α} {a:oA}
def YH (h:eL c S w l a) (M:l≠[]):∃b o,a=some ⟨b,o,none⟩/\S b/\Row w ⟨b,o,none⟩ (l.map c):=by
 obtain ⟨b,o,N,O,U⟩:=h.get (List.length_pos_iff.2 M);refine ⟨b,o,N,O,λi v G=>?_⟩;rw [iD,lz] at G;obtain ⟨x,V,rfl⟩:=G;have:=(U i x V).at0 rfl;rw [addr_addE,show o+i=o+i*1 by omega];exact this
where addr_addE {b o i:Nat}:(⟨b,o,none⟩:Addr).add i=⟨b,o+i,none⟩:=by unfold jY;by_cases X:i=0<;>simp [X]
def Wk (h:eL c S w l a):Rows S w (l.map c) a:=by
 by_cases G:l=[]
 . subst G;exact gA rfl
 . obtain ⟨b,o,M,N,O⟩:=YH h G;exact gB ⟨b,o,M,N,O⟩
end
def Ld {α:Type} (c:α->Value) (h1:∀x,mG (c x)=true):Shape α where
 sz:=1
 rep:=λ_ _ v cs=>cs=[c v]
 len:=λh=>by rw [h];rfl
 one:=λh=>by rw [h];simp [h1]
 mono:=λh _ _=>h
 lt:=λh=>h
def OwnQ.els {α:Type} {c:α->Value} {U:∀x,mG (c x)=true} {R:nP} {B:Nat} {a:oA} {len cap:Nat} {xs:List α} (h:OwnQ (Ld c U) w R B e (.slice a len cap) xs) (V:∀b,B<=b->b<w.heap.size->S b):eL c S w xs a:=by
 by_cases M:xs=[]
 . exact gA M
 . obtain ⟨g,N,O,X,Y,G⟩:=h.rows M;simp only [iF] at O;obtain ⟨rfl,-,-⟩:=O;refine gB ⟨g,0,rfl,V g X Y,λi x Z=>?_⟩;obtain ⟨cs,hr,rfl⟩:=G i x Z;simpa [Ld] using hr
abbrev eO (i:Int):Value:=.int .i64 i
abbrev Cv:Shape Int:=Ld eO (λ_=>rfl)
abbrev strShape:Shape lB:=Ld str (λ_=>rfl)
def CZ (vs:List VD):List (List Int):=vs.map λv=>iK (CV v).toNat 0
def ArrS.blkJ {C D g:Nat} (h:ArrS Cv C D w g xs):Blk w g (AX xs):=by
 obtain ⟨G,N,V,O⟩:=h.ex;have e:G.flatten=AX xs:=by
  have:G=xs.map λx=>[iV .i64 x]:=by
   apply ku ;intro i;rw [iD];rcases gQ i xs.length with M|M
   . have U:G[i]? = some G[i]:=fY Ab;have:=O i xs[i] G[i] (fY M) U;rw [U,fY M];exact congrArg some this
   . rw [gM M,gM Ab];rfl
  rw [this];unfold AX;clear this N V O h
  induction xs with
  | nil=>rfl
  | cons x xs X=>simp [X]
 rwa [e] at N
def ArrS.rowsJ {C D g:Nat} (h:ArrS Cv C D w g xs) (G:S g):Rows S w (AX xs) (some ⟨g,0,none⟩):=gB ⟨g,0,rfl,G,h.blkJ.row⟩
def NewSR (vs:List VD) (w:wD):Ending->wD->Prop:=λe w'=> ∃a c ta tc,e = .returned (.tuple #[.agg #[.slice a vs.length c,.slice ta 0 tc,.slice none 0 0],.int .i64 0])/\ICs (λb=>w.heap.size<=b/\b<w'.heap.size) w' (CZ vs) a/\Ext w w'
def NewSR.ret {vs:List VD} {e:Ending} (h:NewSR vs w e w'):∃v,e = .returned v:=by
 obtain ⟨_,_,_,_,h,-⟩:=h;exact ⟨_,h⟩
def YI (l:List VD) (O:l.length<=1000000) (U:¬CU l) (S:nP) (a:oA) (c:Nat) (w:wD) (N:VDs S w l a) :
 Calls prog 112 #[.slice a l.length c,.slice none 0 0] w λe w'=>e = .returned (.tuple #[.agg #[.slice none 0 0,.slice none 0 0,.slice none 0 0],.int .i64 3])/\Ext w w':=by
 have X:=Ne w;have V:Hid (∀w1,VDs S w1 l a->Calls prog 152 #[.slice a l.length c] w1 λe w'=>e = .returned (.bool false)/\Ext w1 w'):=fZ λw1 h=>(Oo l O S a c w1 h).mono λe w' ⟨q,h1,h2,h3⟩=>⟨by rw [h1,show q=false by cases q with|false=>rfl|true=>exact absurd (h2.1 rfl) U],h3⟩
 refine Ad func112 ntmps112 rfl rfl (cS (eA [_,_,_] ?_));intro b1 w2 G Y p7 z8;revert N X;refine eE Y ?_;intro N X;refine kC (V.out _ Af) ?_;rintro _ Z ⟨⟨⟩,x9⟩;revert G X;refine eE x9 ?_;intro G X;refine eK ?_;refine C1 (xB [_,_,_]) (eS [_,_,_] G ?_);intro aa ab M _;have X:=X.fr M Ab;refine eK ?_;refine Df rfl Ac rfl rfl rfl Af rfl rfl ?_;exact ⟨rfl,X⟩
def YJ (l:List VD) (hv:CU l) (S:nP) (a:oA) (c:Nat) (w:wD) (U:VDs S w l a) :
 Calls prog 112 #[.slice a l.length c,.slice none 0 0] w (NewSR l w):=by
 have X:=Ne w;replace U:VDs (· < w.heap.size) w l a:=U.lt2.wide λ_ h=>h.2
 have hl:l.length<=1000000:=by have:=hv.1;omega
 have HV:Hid (∀w1,VDs (· < w.heap.size) w1 l a->Calls prog 152 #[.slice a l.length c] w1 λe w'=>e = .returned (.bool true)/\Ext w1 w'):=fZ λw1 h=>(Oo l hl (· < w.heap.size) a c w1 h).mono λe w' ⟨q,h1,h2,h3⟩=>⟨by rw [h1,h2.2 hv],h3⟩
 have HN:Hid (∀w1,Calls prog 88 #[.slice none 0 0] w1 (CloneS [] w1)):=fZ λw1=>Hh [] AQ (λ_=>True) none 0 w1 (gA rfl)
 have hz:(CZ l).length=l.length:=by simp [CZ]
 refine Ad func112 ntmps112 rfl rfl (cS (eA [_,_,_] ?_));intro b1 w2 V x6 p7 z8;revert X U;refine eE x6 ?_;intro X U;refine kC (HV.out _ Af) ?_;rintro _ bq ⟨⟨⟩,x9⟩;revert V X U;refine eY x9 ?_;intro br V X U;refine kQ (HN.out _) ?_;rintro _ bs ⟨aj,ak,⟨⟩,bt,av⟩;revert V X U;refine eY av ?_;intro bu V X U;refine C1 (xB [_,_,_]) (xA [_,_,_] ?_);intro al bv aw;refine eI [_,_,_] aw ?_;intro aa O ax bw bx;revert V X U;refine eE ax ?_;intro V X U;refine cT (Aj (cS (C1 Mv (C1 Pz (C1 Mv (cT ?_))))));refine As ?_;refine AF (ι:=Nat) (λj=>[(4,.pointer (some ⟨b1,0,none⟩)),(6,.pointer (some ⟨al,0,none⟩)),(20,.slice a l.length c),(21,.int .i64 l.length),(22,.int .i64 j)])
  (λj w'=> ∃ra rc,j<=l.length/\OwnQ EF w' (λb=>aa.heap.size<=b) aa.heap.size 43 (.slice ra ((CZ l).take j).length rc) ((CZ l).take j)/\Blk w' al [.slice ra ((CZ l).take j).length rc,.slice aj 0 ak,.slice none 0 0]/\Blk w' b1 [.slice none 0 0,.slice none 0 0,.slice none 0 0]/\VDs (· < w.heap.size) w' l a/\Ext w w'/\aa.heap.size<=w'.heap.size)
  (λj=>l.length-j) 0 sB ⟨none,0,gI _,ni,O,V,U,X,gP _⟩ ?_
 rintro j w3 ⟨ra,rc,hj,G,O,V,U,X,bz⟩;have ab:∀g',(iA ra ((CZ l).take j).length rc).ownBlock=some g'->aa.heap.size<=g'/\g'<w3.heap.size:=λg' h=>⟨G.ge h,G.lt h⟩
 have b0:((CZ l).take j).length<=1000000:=by rw [iE];omega
 by_cases am:j<l.length
 . have G:=G.ltR;obtain ⟨kb,ko,rfl,kS,hk⟩:=mM U Ab;have rx:=hk j _ (fY am);have ay:=hv.2 _ (gK am);have az:0<=CV l[j]/\CV l[j]<=16:=by unfold CV;unfold IN at ay;split<;>omega
   obtain ⟨N,hN⟩:=Int.eq_ofNat_of_zero_le az.1;have HX:Hid (∀w1,Calls prog 153 #[l[j].val] w1 λe w'=>e = .returned (.int .i64 (N:Int))/\Ext w1 w'):=fZ λw1=>by rw [<-hN];exact SS l[j] w1
   have ac:(CZ l).take j++[iK N 0]=(CZ l).take (j+1):=by
    rw [gC Ab];congr 2;simp only [CZ,lj,hN,Int.toNat_natCast]
   have a4:N<=16:=by omega
   generalize l[j]=x at *;obtain ⟨xn,xk,xl⟩:=x;replace rx:Row w3 ⟨kb,ko+j*3,none⟩ [str xn,.int .u8 xk,.int .i64 xl]:=rx;unfold VD.val at HX;dsimp only at HX;generalize (CZ l).take j=ys at *;refine eK ?_;refine xA [_,_,_] ?_;intro b2 b3 a0;refine eI [_,_,_] a0 ?_;intro an a1 a2 b4 b5;revert V X U O G;refine eE a2 ?_;intro V X U O G;refine cT (Ap (λwz=>Ext an wz) 6 (.pure 0 (.pure 1 (.pure 2 (.fork 3 (.fork 4 (.fork 5 .tail .none) .none) .none)))) mixed AR (Ae (Aa (Aa (Ae (Aa Ag))))) ?_);intro a3 ad _;have M:(λwz=>Ext an wz) a3:=ad;simp only at M;have ah:=a1;have ai:=O;revert V X U O G;refine eY ad ?_;intro a5 V X U O G;refine ⟨M,(Tq rfl Pg (Tq rfl (Db ai) (Tq rfl (xL [_,_,_] (λwz hz=>(my ah hz))) (tC rfl rfl (HX.out _) ?_))))⟩;rintro _ a6 ⟨⟨⟩,ao⟩;revert M V X U O G;refine eY ao ?_;intro a7 M V X U O G;refine ⟨M,(Ax rfl (Dj (sh:=Cv) (C:=0) (D:=0) (N:=N) (z:=0) Ac Ca rfl rfl rfl rfl AR rfl rfl Ab (λ_ _=>rfl)) rfl ?_ aFh Au)⟩;rintro _ a8 ⟨a9,rfl,ae,ba,bb,ap⟩;revert M V X U O G;refine eE ap ?_;intro M V X U O G;refine ⟨M,(Ax rfl (xS [_]) rfl ?_ aFh Au)⟩;rintro _ bc ⟨bd,rfl,Z,be⟩;have bf:=Z.blk;have aq:=Z.ext;have bg:=Z.pos;have bh:=Z.size;revert ae M V X U O G;refine eE aq ?_;intro ae M V X U O G;refine ⟨M,(Aq rfl (C9 (R:=λb=>aa.heap.size<=b) (sh:=EF) (z:=iK N 0) Ac Ca rfl rfl rfl rfl AR rfl rfl rfl Af (λ_ h=>by exact h.1) (mJ Af) ⟨_,_,by rw [List.length_replicate],ArrS.rowsJ Af ⟨Ab,λe=>by have:=ab _ e;omega⟩⟩ Ab Ab rfl ?_))⟩;rintro bi ar bj af bk bl Y;have bm:=Y.size;have V:=mu V Y (λe=>by have:=ab _ e;omega);have X:=mI X Y (λk hk=>by have:=ab _ hk;omega);have U:=m8 U Y (λb hb hT=>by have:=ab _ hT;(try dsimp only at hb);omega);have O:=mu O Y (λe=>by have:=ab _ e;omega);refine C1 Pg (eV [_] [_,_,_] O ?_);intro bn bo ag bp;have af:=nx af ag (λk hk=>⟨λh=>by (try dsimp only at hk h);omega,λe=>by have:=nB Af e;(try dsimp only at hk);omega⟩);revert V X U;refine eF ag ?_;intro V X U;refine Al (Ah (Ai (Ak (C1 V7 (C1 Mv (Al ?_))))))
   exact Av (j+1) sB ⟨some ⟨_,0,none⟩,_,Ab,by rw [<-ac];assumption,by rw [<-ac];assumption,V,U,X,Ab⟩ Ab
 . obtain rfl:j=l.length:=by omega
   have et:(CZ l).take l.length=CZ l:=by rw [<-hz,gL]
   rw [et] at G O;refine eK ?_;refine eS [_,_,_] V ?_;intro b6 b7 au _;have X:=X.fr au Ab;have G:=nx G au (λk hk=>⟨λh=>by (try dsimp only at hk h);omega,λe=>by have:=nB Af e;(try dsimp only at hk);omega⟩);refine C1 Pa (cT (AU (Df rfl Ac rfl rfl rfl Af rfl rfl ?_)));refine ⟨ra,rc,aj,ak,by rw [hz],?_,X⟩;exact G.ltR.ics (λb h=>⟨Ab,Ab⟩) (λb h1 h2=>⟨Ab,h2⟩)
section
variable {P:Program} {l:Sl} {S:wD->Prop} {tab:Tab} {zt:Ee} {ty t sz:Nat} {sE:Sk}
def L1 {y z:Operand} {a b c z0 N:Value} (T:TabOk P tab) (Z:Cj P zt) (O:AB tab t=some (.array 3 e,sz)) (U:AB tab e=some (sE,1)) (V:CC zt t=some [z0,v,N])
 (X:ev l x=some a) (Y:ev l y=some b) (hw:ev l z=some c) (ca:a.cells = #[a]) (cb:b.cells = #[b]) (cc:c.cells = #[c]):Bm P n l S (.build t #[(0,x),(1,y),(2,z)]) ty (.agg #[a,b,c]):=by
 unfold Bm;intro s w aa pos after g h _;have hu:P.underlying t=some (.array 3 e):=(T _ _ _ O).under;obtain ⟨i0,v0,k1,k2,k3⟩:=EI Z V;obtain ⟨ie,j1,j2⟩:=(T _ _ _ U).info;have G:v0.cells = #[z0,v,N]:=k3;have hb:P.built t [(0,a),(1,b),(2,c)]=some #[a,b,c]:=by
  unfold Program.built;simp only [k1,hu,k2,j1];simp [Instr.fill,j2,ca,cb,cc,G]
 have:=run_build w t #[(0,a),(1,b),(2,c)] _ hb;simp only [execOp,gO];rw [show (#[(0,x),(1,y),(2,z)]:Array (Nat×Operand)).map (λp=>match p with|(i,x)=>(i,s.eval x)) = #[(0,a),(1,b),(2,c)] by simp [h.ev X,h.ev Y,h.ev hw],this];rfl
def L3 {k:IntKind} {i:Int} {y:Operand} {vs:lV} (T:TabOk P tab) (M:AB tab t=some (.array m e,sz)) (h:AB tab e=some (sE,1)) (N:sE.agg=false) (O:ev l x=some (.agg vs.toArray)) (U:ev l y=some (.int k i)) (V:0<=i) (X:i<m) (Y:vs[i.toNat]? = some v) :
 Bm P n l S (.index t x y) ty v:=by
 unfold Bm;intro s w Z pos after g G _;have hu:P.underlying t=some (.array m e):=(T _ _ _ M).under;have e1:(Instr.index t (.agg vs.toArray) (.int k i)).run P w = .ok v w:=by
  simp only [Instr.index,asIntOf,gO,hH,gF,AD hu];simp only [V,X,and_self,if_true,gO,B0 (T _ _ _ h),gF,part,Cq (T _ _ _ h),N];simp [Y]
 simp [execOp,G.ev O,G.ev U,e1]
end
def CM:Shape (Int×Int) where
 sz:=2
 rep:=λ_ _ p cs=>cs=[.int .i64 p.1,.int .i64 p.2]
 len:=λh=>by rw [h];rfl
 one:=λh=>by rw [h];rfl
 mono:=λh _ _=>h
 lt:=λh=>h
def K5 (w:wD) (b o:Nat) (p:Int×Int):Prop:=Row w ⟨b,o,none⟩ [.int .i64 p.1,.int .i64 p.2]
def Bds (w:wD) (l:List (Int×Int)) (a:oA):Prop:=Arr (λ_=>True) 2 K5 w l a
def Bds.ext {a:oA} (h:Bds w l a) (x:Ext w w'):Bds w' l a:=h.mono aFh (λ_ _ _ _ _ h=>mw h x)
instance {a:oA}:LfE w w' (Bds w l a) (Bds w' l a):=⟨λx h=>Bk.Bds.ext h x⟩
def OwnQ.bds {R:nP} {B:Nat} {a:oA} {len cap:Nat} {xs:List (Int×Int)} (h:OwnQ CM w R B e (.slice a len cap) xs):Bds w xs a:=by
 by_cases M:xs=[]
 . exact gA M
 . obtain ⟨g,N,O,X,Y,G⟩:=h.rows M;simp only [iF] at O;obtain ⟨rfl,-,-⟩:=O;refine gB ⟨g,0,rfl,trivial,λi x U=>?_⟩;obtain ⟨cs,V,rfl⟩:=G i x U;simpa [CM,K5] using V
def OwnQ.bdsN {R:nP} {B C:Nat} {a:oA} {len cap:Nat} {xs:List (Int×Int)} (h:OwnQ CM w R B e (.slice a len cap) xs) (X:C<=B):Arr (λb=>C<=b/\b<w.heap.size) 2 K5 w xs a:=by
 rcases h.bds with O|⟨g,o,rfl,-,U⟩
 . exact gA O
 . by_cases G:xs=[]
   . exact gA G
   . obtain ⟨Y,M,N,Z,V,-⟩:=h.rows G;simp only [iF,gE,kL] at N;obtain ⟨⟨rfl,-⟩,-⟩:=N;exact gB ⟨g,o,rfl,⟨Ab,V⟩,U⟩
def BdN (lo hi:Nat) (w:wD) (l:List (Int×Int)) (a:oA):Prop:=Arr (λb=>lo<=b/\b<hi) 2 K5 w l a
def BdN.ext {a:oA} (h:BdN r e w l a) (x:Ext w w'):BdN r e w' l a:=Arr.mono h aFh (λ_ _ _ _ _ h=>mw h x)
instance {a:oA}:LfE w w' (BdN r e w l a) (BdN r e w' l a):=⟨λx h=>Bk.BdN.ext h x⟩
def BdN.fr {T:nP} {a:oA} (h:BdN r e w l a) (x:Fr T w w') (N:∀b,r<=b/\b<e -> ¬T b):BdN r e w' l a:=Arr.mono h aFh (λb _ _ _ O h=>mN h x (N b O))
instance {T:nP} {a:oA}:LfF T w w' (BdN r e w l a) (∀b,r<=b/\b<e -> ¬T b) (BdN r e w' l a):=⟨λx s h=>Bk.BdN.fr h x s⟩
def dA (l:List (Int×Int)) (w:wD):Ending->wD->Prop:=λe w'=> ∃a c,e = .returned (.tuple #[.slice a l.length c,.bool true])/\BdN w.heap.size w'.heap.size w' l a/\Ext w w'
def LensR (l:List (Int×Int)) (w:wD):Ending->wD->Prop:=λe w'=> ∃a c,e = .returned (.tuple #[.slice a l.length c,.bool true])/\Bds w' l a/\Ext w w'
def LensR.ret {e:Ending} (h:LensR l w e w'):∃v,e = .returned v:=by
 obtain ⟨_,_,h,-⟩:=h;exact ⟨_,h⟩
def Nu (vs:List VD) (hl:vs.length<=1000000) (b:BoxV) (hv:¬(b.ok/\CU vs)) (S:nP) (a:oA) (c:Nat) (w:wD) (U:VDs S w vs a) :
 Calls prog 72 #[.slice a vs.length c,.agg #[.int .i64 b.v,.int .i64 b.l,.int .i64 b.i]] w λe w'=>e = .returned (.tuple #[.slice none 0 0,.bool false])/\Ext w w':=by
 have X:=Ne w;obtain ⟨G,M,N⟩:=b;simp only [BoxV.ok] at hv;have HN:Hid (CU vs \/ ∀w1,VDs S w1 vs a->Calls prog 112 #[.slice a vs.length c,.slice none 0 0] w1 λe w'=>e = .returned (.tuple #[.agg #[.slice none 0 0,.slice none 0 0,.slice none 0 0],.int .i64 3])/\Ext w1 w'):=
  fZ (by by_cases h:CU vs;exact gA h;exact gB λw1 V=>YI vs hl h S a c w1 V)
 have O:(0<=G/\G<=1000)->(0<=M/\M<=1000)->(0<=N/\N<=1000) -> ¬CU vs:=λV h2 h3 h=>hv ⟨⟨V,h2,h3⟩,h⟩
 refine Ad func72 ntmps72 rfl rfl (cS (Dl [_,_,_] rfl rfl rfl ?_));intro b1 w2 n3;have Y:=n3.blk;dsimp only at Y;have x5:=n3.ext;revert U X;refine eE x5 ?_;intro U X;refine eK ?_;refine C1 (L1 Ac Ca rfl rfl rfl rfl rfl rfl rfl rfl rfl) (C1 Mv (cT ?_));refine As ?_;refine AF (ι:=Nat) (λj=>[(0,.slice a vs.length c),(3,.pointer (some ⟨b1,0,none⟩)),(4,.slice none 0 0),(5,.bool false),(19,.agg #[.int .i64 G,.int .i64 M,.int .i64 N]),(20,.int .i64 j)])
  (λj w'=>j<=3/\(0<j->0<=G/\G<=1000)/\(1<j->0<=M/\M<=1000)/\(2<j->0<=N/\N<=1000)/\Blk w' b1 [.int .i64 G,.int .i64 M,.int .i64 N]/\VDs S w' vs a/\Ext w w') (λj=>3-j) 0 sB ⟨Ab,Ab,Ab,Ab,Y,U,X⟩ ?_
 rintro j w1 ⟨hj,o1,o2,o3,Y,U,X⟩;by_cases ae:j<3
 . obtain ⟨x,hx,q1,q2,q3⟩:∃x,[iV .i64 G,.int .i64 M,.int .i64 N][((j:Int)).toNat]? = some (.int .i64 x)/\(j=0->x=G)/\(j=1->x=M)/\(j=2->x=N):=by
    rw [Int.toNat_natCast];rcases (show j=0\/j=1\/j=2 by omega) with rfl|rfl|rfl
    . exact ⟨G,rfl,λ_=>rfl,λh=>by omega,λh=>by omega⟩
    . exact ⟨M,rfl,λh=>by omega,λ_=>rfl,λh=>by omega⟩
    . exact ⟨N,rfl,λh=>by omega,λh=>by omega,λ_=>rfl⟩
   focus
    refine eK ?_;refine C1 (L3 (vs:=[.int .i64 G,.int .i64 M,.int .i64 N]) Ac rfl rfl rfl rfl rfl Ab Ab hx) (eK ?_);refine B4 rfl rfl rfl (λZ=>?_) (λZ=>?_);refine kT ?_;rotate_left;refine eK ?_;refine AA rfl (λaa=>?_) (λaa=>?_);refine kT ?_;rotate_left;refine eK ?_;rotate_left
   . exact ⟨rfl,X⟩
   . exact ⟨rfl,X⟩
   . exact Av (j+1) sB ⟨Ab,λ_=>by omega,λ_=>by omega,λ_=>by omega,Af,Af,X⟩ Ab
 . obtain rfl:j=3:=by omega
   refine kC ((HN.out.resolve_left (O Ab Ab Ab)) _ Af) ?_;rintro _ af ⟨⟨⟩,ab⟩;have X:=X.ext ab;refine eK ?_;refine xA [_,_,_] ?_;intro ag ah ac;refine eI [_,_,_] ac ?_;intro ai _ ad _ _;have X:=X.ext ad;refine kT ?_;exact ⟨rfl,X⟩
def L4 (vs:List VD) (b:BoxV) (hb:b.ok) (hv:CU vs) (S:nP) (a:oA) (c:Nat) (w:wD) (M:VDs S w vs a) :
 Calls prog 72 #[.slice a vs.length c,.agg #[.int .i64 b.v,.int .i64 b.l,.int .i64 b.i]] w (dA (CJ vs b) w):=by
 have X:=Ne w;replace M:VDs (· < w.heap.size) w vs a:=M.lt2.wide λ_ h=>h.2
 have hl:vs.length<=1000000:=by have:=hv.1;omega
 have HN:=fZ (λw1 (h:VDs (· < w.heap.size) w1 vs a)=>YJ vs hv (· < w.heap.size) a c w1 h);have HL:Hid (∀j (hj:j<vs.length),((CV vs[j]).toNat:Int)=CV vs[j]/\Jk b vs[j]=if vs[j].kind=3 then (0,b.l) else (CV vs[j],CV vs[j])):=fZ λj hj=>⟨by
  have au:=hv.2 _ (gK hj);unfold IN at au;unfold CV;split<;>omega,rfl⟩
 have hz:(CZ vs).length=vs.length:=by simp [CZ]
 unfold CJ;have af:∀j (hj:j<vs.length),(vs.map (Jk b)).take j++[Jk b vs[j]]=(vs.map (Jk b)).take (j+1):=λj hj=>by
  rw [gC (by simpa using hj),lj]
 have av:(vs.map (Jk b)).length=vs.length:=by simp
 obtain ⟨⟨o1,o2⟩,⟨o3,o4⟩,o5,o6⟩:=hb;obtain ⟨bv,bl,bi⟩:=b;simp only at o1 o2 o3 o4 o5 o6 HL;generalize bn:vs.map (Jk ⟨bv,bl,bi⟩)=ms at *;refine Ad func72 ntmps72 rfl rfl (cS (Dl [_,_,_] rfl rfl rfl ?_));intro b1 w2 n3;have U:=n3.blk;dsimp only at U;have x5:=n3.ext;have p6:=n3.pos;have z7:=n3.size;revert X M;refine eE x5 ?_;intro X M;refine eK ?_;refine C1 (L1 Ac Ca rfl rfl rfl rfl rfl rfl rfl rfl rfl) (C1 Mv (cT ?_));refine As ?_;refine AF (ι:=Nat) (λj=>[(0,.slice a vs.length c),(3,.pointer (some ⟨b1,0,none⟩)),(4,.slice none 0 0),(5,.bool false),(19,.agg #[.int .i64 bv,.int .i64 bl,.int .i64 bi]),(20,.int .i64 j)])
  (λj w'=>j<=3/\Blk w' b1 [.int .i64 bv,.int .i64 bl,.int .i64 bi]/\VDs (· < w.heap.size) w' vs a/\Ext w w') (λj=>3-j) 0 sB ⟨Ab,U,M,X⟩ ?_
 rintro j w1 ⟨hj,U,M,X⟩;by_cases bo:j<3
 . obtain ⟨x,hx,q1,q2⟩:∃x,[iV .i64 bv,.int .i64 bl,.int .i64 bi][((j:Int)).toNat]? = some (.int .i64 x)/\0<=x/\x<=1000:=by
    rw [Int.toNat_natCast];rcases (show j=0\/j=1\/j=2 by omega) with rfl|rfl|rfl
    . exact ⟨bv,rfl,o1,o2⟩
    . exact ⟨bl,rfl,o3,o4⟩
    . exact ⟨bi,rfl,o5,o6⟩
   refine eK ?_;refine C1 (L3 (vs:=[.int .i64 bv,.int .i64 bl,.int .i64 bi]) Ac rfl rfl rfl rfl rfl Ab Ab hx) (C1 Pa (cN (C1 Mv (C1 V3 (C1 Mv (Ej (C1 Mv (Ej (C1 V5 (C1 MV (cT (Dd (Am (Ah (Ai (Ak (C1 V7 (C1 Mv (Al ?_)))))))))))))))))));exact Av (j+1) sB ⟨Ab,Af,Af,X⟩ Ab
 . obtain rfl:j=3:=by omega
   have bp:=U.lt;refine kQ (HN.out _ Af) ?_;rintro _ bq ⟨ah,aw,a2,a3,⟨⟩,ag,ax⟩;revert U M X;refine eY ax ?_;intro br U M X;refine eK ?_;refine xA [_,_,_] ?_;intro bs a4 ai;refine eI [_,_,_] ai ?_;intro aa aj ak a5 a6;revert ag U M X;refine eE ak ?_;intro ag U M X;refine C1 Pa (cT (Aj (cS (C1 Mv (C1 V2 (cT (MS (Am (Ai (cS (C1 Pa (cT (Aj (cS (C1 Pg (C1 (Pl aj) (C1 Pz (C1 Mv (cT ?_)))))))))))))))))));refine As ?_;refine AF (ι:=Nat×oA×Nat) (λx=>[(0,.slice a vs.length c),(3,.pointer (some ⟨b1,0,none⟩)),(10,.slice x.2.1 (ms.take x.1).length x.2.2),(38,.slice ah vs.length aw),(39,.int .i64 vs.length),(40,.int .i64 x.1)])
    (λx w'=>x.1<=vs.length/\OwnQ CM w' (λ_=>False) aa.heap.size 135 (.slice x.2.1 (ms.take x.1).length x.2.2) (ms.take x.1)/\Blk w' b1 [.int .i64 bv,.int .i64 bl,.int .i64 bi]/\ICs (· < aa.heap.size) w' (CZ vs) ah/\VDs (· < w.heap.size) w' vs a/\Ext w w'/\aa.heap.size<=w'.heap.size)
    (λx=>vs.length-x.1) (0,none,0) sB ⟨gI _,ni,U,ag.wide (λb h=>by omega),M,X,gP _⟩ ?_
   have al:=X.size;rintro ⟨j,ra,rc⟩ w3 ⟨ay,G,U,O,M,X,bt⟩;simp only at ay G;have V:∀g',(iA ra (ms.take j).length rc).ownBlock=some g'->aa.heap.size<=g'/\g'<w3.heap.size:=λg' h=>⟨G.ge h,G.lt h⟩
   have bu:(ms.take j).length<=1000000:=by rw [iE];omega
   by_cases ab:j<vs.length
   . obtain ⟨kb,ko,rfl,kS,hk⟩:=mM M Ab;have rx:=hk j _ (fY ab);obtain ⟨db,bw,rfl,dS,hd⟩:=O.get (by intro e;rw [e] at hz;simp at hz;omega);obtain ⟨xa,xc,ry,-⟩:=hd j _ (fY (show j<(CZ vs).length by omega));obtain ⟨f1,f2⟩:=HL.out j ab;have am:((CZ vs)[j]'(by omega)).length=(CV vs[j]).toNat:=by simp [CZ]
     rw [am] at ry;have hn:=af j ab;rw [f2] at hn;rw [<-f1] at hn;generalize (CV vs[j]).toNat=N at *;generalize vs[j]=x at *;obtain ⟨xn,xk,xl⟩:=x;replace rx:Row w3 ⟨kb,ko+j*3,none⟩ [str xn,.int .u8 xk,.int .i64 xl]:=rx;simp only at hn;by_cases an:xk=3
     . rw [AT an] at hn;generalize ms.take j=ys at *;refine eK ?_;refine C1 (Pw rx) (eK ?_);refine C1 (xB [_,_]) (Az (xS [_,_]) rfl ?_ aFh);rintro _ bx ⟨bz,rfl,ac,b0⟩;have b2:=ac.blk;have az:=ac.ext;have b3:=ac.pos;have b4:=ac.size;revert U X M O G;refine eE az ?_;intro U X M O G;refine C9 (R:=λ_=>False) (sh:=CM) (z:=(0,bl)) Ac Ca rfl rfl rfl rfl AR rfl rfl rfl Af (λ_ h=>by exact h) (mJ Af) rfl Ab Ab rfl ?_;rintro b5 ao a7 a8 a9 ba Y;have bb:=Y.size;have U:=mu U Y (λe=>by have:=V _ e;omega);have X:=mI X Y (λk hk=>by have:=V _ hk;omega);have M:=m8 M Y (λb hb hT=>by have:=V _ hT;(try dsimp only at hb);omega);have O:=ICs.fr O Y (λb hb hT=>by have:=V _ hT;(try dsimp only at hb);omega);refine C1 Pa (Al (Ah (Ai (Ak (C1 V7 (C1 Mv (Al ?_)))))));exact Av (j+1,some ⟨_,0,none⟩,_) (by dsimp only;rw [<-hn];(refine An rfl ?_;refine An rfl ?_;refine An rfl ?_;refine An rfl ?_;refine An rfl ?_;refine An rfl ?_;exact BE)) ⟨by (try dsimp only);omega,by dsimp only;rw [<-hn];assumption,U,O,M,X,Ab⟩ (by (try dsimp only);omega)
     . rw [AC an] at hn;generalize ms.take j=ys at *;refine eK ?_;refine C1 (Pw rx) (eK ?_);refine C1 (xB [_,_]) (Az (xS [_,_]) rfl ?_ aFh);rintro _ b6 ⟨b7,rfl,ad,b8⟩;have b9:=ad.blk;have a0:=ad.ext;have ca:=ad.pos;have cb:=ad.size;revert U X M O G;refine eE a0 ?_;intro U X M O G;refine C9 (R:=λ_=>False) (sh:=CM) (z:=((N:Int),(N:Int))) Ac Ca rfl rfl rfl rfl AR rfl rfl rfl Af (λ_ h=>by exact h) (mJ Af) rfl Ab Ab rfl ?_;rintro cc ap bc bd be bf Z;have bg:=Z.size;have U:=mu U Z (λe=>by have:=V _ e;omega);have X:=mI X Z (λk hk=>by have:=V _ hk;omega);have M:=m8 M Z (λb hb hT=>by have:=V _ hT;(try dsimp only at hb);omega);have O:=ICs.fr O Z (λb hb hT=>by have:=V _ hT;(try dsimp only at hb);omega);refine C1 Pa (Al (Ah (Ai (Ak (C1 V7 (C1 Mv (Al ?_)))))));exact Av (j+1,some ⟨_,0,none⟩,_) (by dsimp only;rw [<-hn];(refine An rfl ?_;refine An rfl ?_;refine An rfl ?_;refine An rfl ?_;refine An rfl ?_;refine An rfl ?_;exact BE)) ⟨by (try dsimp only);omega,by dsimp only;rw [<-hn];assumption,U,O,M,X,Ab⟩ (by (try dsimp only);omega)
   . obtain rfl:j=vs.length:=by omega
     rw [show ms.take vs.length=ms by rw [<-av,gL]] at *;refine eK ?_;refine C1 (xB [_,_]) (Az (xS [_,_]) rfl ?_ aFh);rintro _ cd ⟨ce,rfl,ae,cf⟩;have cg:=ae.blk;have a1:=ae.ext;have ch:=ae.pos;have ci:=ae.size;revert X G;refine eE a1 ?_;intro X G;refine C9 (R:=λ_=>False) (sh:=CM) (z:=(0,bi)) Ac Ca rfl rfl rfl rfl AR rfl rfl rfl Af (λ_ h=>by exact h) (mJ Af) rfl Ab Ab rfl ?_;rintro cj aq bh bj bk bm ar;have X:=mI X ar (λk hk=>by have:=V _ hk;omega);refine kT ?_;exact ⟨_,_,rfl,OwnQ.bdsN Af al,X⟩
def UC (vs:List VD) (b:BoxV) (G:b.ok) (M:CU vs) (S:nP) (a:oA) (c:Nat) (w:wD) (N:VDs S w vs a) :
 Calls prog 72 #[.slice a vs.length c,.agg #[.int .i64 b.v,.int .i64 b.l,.int .i64 b.i]] w (LensR (CJ vs b) w):=
 (L4 vs b G M S a c w N).mono λ_ _ ⟨a,c,h1,h2,h3⟩=>⟨a,c,h1,Arr.mono h2 (λ_ _=>trivial) (λ_ _ _ _ _ h=>h),h3⟩
def Qq (l:List (Int×Int)) (y:Int) (j:Nat) (h:j<l.length):DE (l.take (j+1)) y=FI (DE (l.take j) y) (LH l[j] y):=by
 unfold DE;rw [gC h,List.foldl_append];rfl
def YK (vs:List VD) (hl:vs.length<=1000000) (b:BoxV) (S:nP) (a:oA) (c:Nat) (w:wD) (hs:VDs S w vs a) :
 Calls prog 43 #[.slice a vs.length c,.agg #[.int .i64 b.v,.int .i64 b.l,.int .i64 b.i]] w λe w'=>e = .returned (.tuple #[.int .i64 (G7 vs b).1,.int .i64 (G7 vs b).2])/\Ext w w':=by
 have X:=Ne w;by_cases U:b.ok/\CU vs
 . have HL:=fZ (λw1 h=>UC vs b U.1 U.2 S a c w1 h);have hb:=Ou U.1 U.2;have an:=JW vs b;have hy:1<=2*b.v+1/\2*b.v+1<=2001:=by have:=U.1.1;omega
   have aa:∀j,1<=DE ((CJ vs b).take j) (2*b.v+1)/\DE ((CJ vs b).take j) (2*b.v+1)<=1099511627777:=λj=>
    No _ 1 _ hy.1 (λp hp=>by have:=hb p (jO hp);omega) Ab Ab
   have HS:=fZ (λj h=>Qq (CJ vs b) (2*b.v+1) j h);unfold G7;rw [AT U];obtain ⟨M,Y,Z⟩:=b;simp only at hy aa HS HL ⊢;have hE:DE (CJ vs ⟨M,Y,Z⟩) (2*M+1)=DE ((CJ vs ⟨M,Y,Z⟩).take (CJ vs ⟨M,Y,Z⟩).length) (2*M+1):=by rw [gL]
   generalize CJ vs ⟨M,Y,Z⟩=N at *;have HB:=fZ hb;have H1:=fZ aa;refine Ad func43 ntmps43 rfl rfl (cS (eB [_,_,_] ?_));intro b1 w2 O x5 _ _;revert hs X;refine eE x5 ?_;intro hs X;refine kQ (HL.out _ Af) ?_;rintro _ aq ⟨a8,c9,⟨⟩,G,ae⟩;revert O X;refine eE ae ?_;intro O X;refine C1 Mv (C1 Px (C1 Px (C1 Pa (C1 Pa (cT (Aj (cS (C1 Mv (C1 Pt (cT (AO rfl (Am (Ai (cS (C1 Pa (cT (Aj (cS (C1 Mv (C1 Pz (C1 Mv (cT ?_))))))))))))))))))))));have hm:kN .i64 (2*M)=2*M:=gG _ Ab;refine As ?_;refine AF (ι:=Nat) (λj=>[(3,.pointer (some ⟨b1,0,none⟩)),(8,.int .i64 (DE (N.take j) (2*M+1))),(19,.slice a8 N.length c9),(20,.int .i64 N.length),(21,.int .i64 j)])
    (λj w'=>j<=N.length/\Blk w' b1 [.int .i64 M,.int .i64 Y,.int .i64 Z]/\Bds w' N a8/\Ext w w') (λj=>N.length-j) 0 sB ⟨gI _,O,G,X⟩ ?_
   rintro j w3 ⟨hj,O,G,X⟩;have h1:=H1.out j;by_cases V:j<N.length
   . obtain ⟨kb,ko,rfl,-,hk⟩:=mM G Ab;have rx:=hk j _ (fY V);have hp:=HB.out _ (gK V);have hq:=HS.out j V;have af:=VO hy.1 hp.1 hp.2.1;have HC:=fZ (λw1=>Qp N[j] (2*M+1) Ab Ab Ab w1);have HP:=fZ (λw1=>Nt (DE (N.take j) (2*M+1)) (LH N[j] (2*M+1)) h1 af w1);generalize LH N[j] (2*M+1)=q at *;generalize DE (N.take j) (2*M+1)=s at *;generalize N[j]=p at *;obtain ⟨p1,p2⟩:=p;replace rx:Row w3 ⟨kb,ko+j*2,none⟩ [.int .i64 p1,.int .i64 p2]:=rx;simp only at hp HC;refine eK ?_;refine xA [_,_] ?_;intro ar au ag;refine eI [_,_] ag ?_;intro av ah ai _ _;revert O X G;refine eE ai ?_;intro O X G;refine eK ?_;refine AH [_,_] Ac rfl rfl rfl ah rfl rfl rfl (eK ?_);refine C1 (Hu rfl rfl hm) (C1 V7 (cC rfl (HC.out _) ?_));rintro _ ao ⟨⟨⟩,aj⟩;revert O X G;refine eE aj ?_;intro O X G;refine cC rfl (HP.out _) ?_;rintro _ ap ⟨⟨⟩,ab⟩;revert O X G;refine eE ab ?_;intro O X G;refine C1 Pa (Al (Ah (Ai (Ak (C1 V7 (C1 Mv (Al ?_)))))));exact Av (j+1) (by rw [hq];(refine An rfl ?_;refine An rfl ?_;refine An rfl ?_;refine An rfl ?_;refine An rfl ?_;exact BE)) ⟨Ab,Af,Af,X⟩ Ab
   . obtain rfl:j=N.length:=by omega
     rw [<-hE] at *;generalize DE N (2*M+1)=s at *;by_cases ac:1099511627776<s
     . rw [AT ac];refine kT ?_;exact ⟨rfl,X⟩
     . rw [AC ac];refine kT ?_;exact ⟨rfl,X⟩
 . have HL:=fZ (λw1 h=>Nu vs hl b U S a c w1 h);rw [show G7 vs b=(0,1) by unfold G7;rw [AC U]];obtain ⟨M,Y,Z⟩:=b;refine Ad func43 ntmps43 rfl rfl (cS (Dl [_,_,_] rfl rfl rfl ?_));intro aw ax ad;have ak:=ad.blk;dsimp only at ak;have al:=ad.ext;revert hs X;refine eE al ?_;intro hs X;refine kC (HL.out _ Af) ?_;rintro _ ay ⟨⟨⟩,am⟩;have X:=X.ext am;refine kT ?_;exact ⟨rfl,X⟩
structure EX.wf (e:EX):Prop where
 name:e.name.length<=9223372036854775807
 g:e.g.wf
 few:e.g.vars.length<=1000000
structure EX.sits (S:nP) (w:wD) (e:EX) (va pa ma:oA) (vc:Nat):Prop where
 g:e.g.sits S w va pa ma
 p:PDsC S w e.g.procs pa
 room:e.g.vars.length<=vc
def EX.sits.ext {S:nP} {w w':wD} {e:EX} {G M N:oA} {vc:Nat} (h:e.sits S w G M N vc) (x:Ext w w'):e.sits S w' G M N vc:=⟨h.g.ext x,h.p.ext x,h.room⟩
instance {e:EX} {G M:oA} {vc:Nat}:LfE w w' (e.sits S w G M N vc) (e.sits S w' G M N vc):=⟨λx h=>Bk.EX.sits.ext h x⟩
def EX.sits.fr {S T:nP} {w w':wD} {e:EX} {G M N:oA} {vc:Nat} (h:e.sits S w G M N vc) (x:Fr T w w') (O:∀b,S b -> ¬T b):e.sits S w' G M N vc:=⟨h.g.fr x O,h.p.fr x O,h.room⟩
instance {T:nP} {e:EX} {G M:oA} {vc:Nat}:LfF T w w' (e.sits S w G M N vc) (∀b,S b -> ¬T b) (e.sits S w' G M N vc):=⟨λx s h=>Bk.EX.sits.fr h x s⟩
def EX.sits.ltA {S:nP} {w:wD} {e:EX} {G M N:oA} {vc:Nat} (h:e.sits S w G M N vc):e.sits (· < w.heap.size) w G M N vc:=⟨h.g.ltA,h.p.ltA,h.room⟩
def ZU (M:g.wf) (S:nP) (N:oA) (vc:Nat) (G:oA) (X:Nat) (O:oA) (Y:Nat) (w:wD) (Z:g.sits S w N G O) (U:PDsC S w g.procs G) (V:g.vars.length<=vc) :
 Calls prog 41 #[.agg (g.cells N vc G X O Y).toArray] w λe w'=>e = .returned (.bool (decide g.acc))/\Ext w w':=
 (cZ g M S N vc G X O Y w Z U V).mono λe w' ⟨q,h1,h2,h3⟩=>⟨by rw [h1];congr 2;cases q;exact (decide_eq_false (λh=>by cases h2.2 h)).symm;exact (decide_eq_true (h2.1 rfl)).symm,h3⟩
def Nv (e:EX) (hw:e.wf) (S:nP) (va:oA) (vc:Nat) (pa:oA) (pc:Nat) (ma:oA) (mc:Nat) (w:wD) (hs:e.sits S w va pa ma vc) :
 Calls prog 21 #[.agg (e.cells va vc pa pc ma mc).toArray] w λr w'=>r = .returned (.bool (decide e.valid))/\Ext w w':=by
 have X:=Ne w;obtain ⟨ac,M,N⟩:=hw;obtain ⟨Y,hp,ad⟩:=hs.ltA;have Z:=fZ (λw1=>IM e.name w1 ac);have HC:=fZ (λw1 O U=>ZU M (· < w.heap.size) va vc pa pc ma mc w1 O U ad);have HE:=fZ (λw1 h=>YK e.g.vars N e.box (· < w.heap.size) va vc w1 h);by_cases O:e.num
 . unfold EX.cells EX.valid;unfold EX.num at O ⊢;obtain ⟨en,ep,ef,⟨bv,bl,bi⟩,g⟩:=e;simp only at ac M N Y hp ad Z HC HE O ⊢;obtain ⟨o1,⟨o2,o3⟩,o4,o5⟩:=O;rw [o1] at Z;simp only [o1,o2,o3,o4,o5,true_and,and_self];have G:=Y.vars;refine Ad func21 ntmps21 rfl rfl (cS (eB [_,_,_,_,_,_,_,_,_,_,_,_] ?_));intro b1 w2 V x5 _ _;revert X Y hp G;refine eE x5 ?_;intro X Y hp G;refine kC (Z.out _) ?_;rintro _ w9 ⟨⟨⟩,x8⟩;revert V X Y hp G;refine eE x8 ?_;intro V X Y hp G;refine eK ?_;by_cases U:g.acc
   . have HI:=fZ (λw1 h=>Qk M U.1 (· < w.heap.size) va vc pa pc ma mc w1 h);rw [<-PG.pinv_eq] at HI;have HD:=fZ (λva vc pa pc ma mc w1 S O al h3=>ZU (PG.pinv_wf M U.1) S va vc pa pc ma mc w1 O al h3);rw [decide_eq_true U] at HC;simp only [U,true_and];refine kC (HC.out _ Af Af) ?_;rintro _ a9 ⟨⟨⟩,am⟩;revert V X Y G;refine eE am ?_;intro V X Y G;refine eK ?_;refine Az (AM AR rfl (HI.out _ Af) (λ_ _ ⟨_,_,_,_,_,_,h⟩=>⟨_,h.1⟩)) rfl ?_ aFh;rintro _ ax ⟨ay,az,a0,a1,a2,a3,⟨⟩,aa,ab,a4,ae⟩;revert V X G;refine eE ae ?_;intro V X G;refine eK ?_;refine xA [_,_,_,_,_,_] ?_;intro a5 a6 af;refine eI [_,_,_,_,_,_] af ?_;intro a7 a8 ag _ _;revert aa ab V X G;refine eE ag ?_;intro aa ab V X G;refine eK ?_;by_cases h3:g.pinv.acc
     . rw [decide_eq_true h3] at HD;simp only [h3,true_and];generalize g.pinv=u at *;generalize G7 g.vars ⟨bv,bl,bi⟩=r at *;obtain ⟨n,k⟩:=r;simp only at HE ⊢;refine kC (HD.out _ _ _ _ _ _ _ _ Af Af Af) ?_;rintro _ ba ⟨⟨⟩,an⟩;revert V X G;refine eE an ?_;intro V X G;refine kC (HE.out _ Af) ?_;rintro _ bb ⟨⟨⟩,ao⟩;have X:=X.ext ao;refine eK ?_;by_cases hk:k=0
       . subst hk;simp only [true_and];refine kR ?_;exact ⟨rfl,X⟩
       . simp only [hk,false_and,decide_false];refine kR ?_;exact ⟨rfl,X⟩
     . rw [decide_eq_false h3] at HD;simp only [h3,false_and,decide_false];generalize g.pinv=u at *;refine kC (HD.out _ _ _ _ _ _ _ _ Af Af Af) ?_;rintro _ bc ⟨⟨⟩,ap⟩;have X:=X.ext ap;refine kR ?_;exact ⟨rfl,X⟩
   . rw [decide_eq_false U] at HC;simp only [U,false_and,decide_false];refine kC (HC.out _ Af Af) ?_;rintro _ bd ⟨⟨⟩,aq⟩;have X:=X.ext aq;refine kR ?_;exact ⟨rfl,X⟩
 . rw [decide_eq_false (λh=>O h.1)];unfold EX.cells;unfold EX.num at O;obtain ⟨en,ep,ef,⟨bv,bl,bi⟩,g⟩:=e;simp only at ac M N Y hp ad Z HC HE O ⊢;cases o1:Cl en
   . rw [o1] at Z;refine Ad func21 ntmps21 rfl rfl (cS (eB [_,_,_,_,_,_,_,_,_,_,_,_] ?_));intro be bf bg ar _ _;have X:=X.ext ar;refine kC (Z.out _) ?_;rintro _ bh ⟨⟨⟩,au⟩;have X:=X.ext au;refine kR ?_;exact ⟨rfl,X⟩
   . rw [o1] at Z;have U:¬((1<=ep/\ep<=1000)/\0<=ef/\ef<=1000000):=λh=>O ⟨o1,h⟩
     refine Ad func21 ntmps21 rfl rfl ?_
     focus
      refine cS (eB [_,_,_,_,_,_,_,_,_,_,_,_] ?_);intro bj bk ah av _ _;have X:=X.ext av;refine kC (Z.out _) ?_;rintro _ bm ⟨⟨⟩,aw⟩;revert ah X;refine eE aw ?_;intro ah X;refine eK ?_;refine B4 rfl rfl rfl (λai=>?_) (λai=>?_);refine kR ?_;rotate_left;refine eK ?_;refine B4 rfl rfl rfl (λaj=>?_) (λaj=>?_);refine kR ?_;rotate_left;refine eK ?_;refine B4 rfl rfl rfl (λak=>?_) (λak=>?_);refine kR ?_;rotate_left;refine kR ?_;rotate_left
     all_goals first|exact ⟨rfl,X⟩|exact absurd Ab U
def PgC (u:PG) (w:wD):Ending->wD->Prop:=λe w'=> ∃va vc pa pc ma mc,e = .returned (.agg (u.cells va vc pa pc ma mc).toArray)/\u.sits (λb=>w.heap.size<=b/\b<w'.heap.size) w' va pa ma/\PDsC (λb=>w.heap.size<=b/\b<w'.heap.size) w' u.procs pa/\u.vars.length<=vc/\Ext w w'
def PgC.ret {u:PG} {e:Ending} (h:PgC u w e w'):∃v,e = .returned v:=by
 obtain ⟨_,_,_,_,_,_,h,-⟩:=h;exact ⟨_,h⟩
def aK {G O:oA} {vc:Nat} {xs:List PD} {Y S2:nP} (hx:xs=g.procs) (hv:VDs Y w' g.vars G) (hc:g.vars.length<=vc) (ho:OwnL EN w' n e (.slice N xs.length r) xs) (hm:g.main.sits S2 w' O) (X:Ext w w') (k1:∀b,Y b->w.heap.size<=b) (k2:∀b,S2 b->w.heap.size<=b) (kM:w.heap.size<=n) :
 PgC g w (.returned (.agg #[.slice G g.vars.length vc,.slice N xs.length r,.int .u8 g.main.kind,.int .i64 g.main.num,str g.main.name,.slice O g.main.kids.length m])) w':=by
 subst hx;have Z:=PDsC.wide (PDsC.lt2 (ho.pdsC (S:=λb=>n<=b) (λb hb=>hb))) (S':=λb=>w.heap.size<=b/\b<w'.heap.size) λb h=>⟨Ab,h.2⟩
 exact ⟨G,vc,N,r,O,m,rfl,⟨hv.lt2.wide λb h=>⟨k1 b h.1,h.2⟩,Z.pds,mD (Gb _ _ hm) λb h=>⟨k2 b h.1,h.2⟩⟩,Z,hc,X⟩
set_option maxHeartbeats 8000000 in
def Wl (g:PG) (hf:g.few) (S:nP) (va:oA) (vc:Nat) (pa:oA) (pc:Nat) (ma:oA) (mc:Nat) (w:wD) (hs:g.sits S w va pa ma) :
 Calls prog 31 #[.agg (g.cells va vc pa pc ma mc).toArray] w (PgC g w):=by
 have X:=Ne w;obtain ⟨nv,np,b0,a6⟩:=hf;have HI:=fZ (Jl g.main b0);have HC:=fZ (Hz g.vars Ab);have HQ:=fZ a6;clear a6;have hs:=hs.ltA;refine Ad func31 ntmps31 rfl rfl ?_;refine cS (eB [_,_,_,_,_,_] ?_);intro b1 w2 h4 x5 p6 z7;revert X hs;refine eE x5 ?_;intro X hs;refine eA [_,_,_,_,_,_] ?_;intro b8 w9 N b2 eb ec;revert h4 X hs;refine eE b2 ?_;intro h4 X hs;refine cT ?_;refine ED (ι:=Nat×oA×Nat×oA×Nat) (λx=>[(1,.pointer (some ⟨b1,0,none⟩)),(2,.pointer (some ⟨b8,0,none⟩)),(3,.pointer (some ⟨x.1,0,none⟩))])
  (λx w'=>Blk w' x.1 [.slice x.2.1 g.vars.length x.2.2.1,.slice none 0 0,.int .u8 g.main.kind,.int .i64 g.main.num,str g.main.name,.slice x.2.2.2.1 g.main.kids.length x.2.2.2.2]/\VDs (λb=>b8<b/\b≠x.1/\b<w'.heap.size) w' g.vars x.2.1/\g.main.sits (λb=>b8<b/\b≠x.1/\b<w'.heap.size) w' x.2.2.2.1/\b8<x.1/\x.1<w'.heap.size/\g.vars.length<=x.2.2.1 /\
   Blk w' b1 [.slice va g.vars.length vc,.slice pa g.procs.length pc,.int .u8 g.main.kind,.int .i64 g.main.num,str g.main.name,.slice ma g.main.kids.length mc]/\Blk w' b8 [.slice none 0 0,.slice none 0 0,.int .u8 0,.int .i64 0,str [],.slice none 0 0]/\g.sits (· < w.heap.size) w' va pa ma/\Ext w w') ?_ ?_
 . clear HQ;have hv:=hs.vars;have O:=hs.main
   focus
    refine Ap (λwz=>Ext w9 wz) 8 (.pure 0 (.pure 1 (.pure 3 (.pure 4 (.fork 2 (.fork 5 (.pure 6 (.fork 7 .tail .none)) (.fork 7 (.fork 5 (.pure 6 .tail) .none) .none)) (.fork 7 (.fork 2 (.fork 5 (.pure 6 .tail) .none) .none) .none)))))) mixed AR (Aa Ag) ?_;intro b3 a7 _;have G:(λwz=>Ext w9 wz) b3:=a7;simp only at G;have b4:=N;have a8:=h4;have cg:=hs;have ch:=hv;have b5:=O;revert N h4 X hs hv O;refine eY a7 ?_;intro ed N h4 X hs hv O;refine ⟨G,?_⟩;refine eT ?_;refine Tq rfl (xL [_,_,_,_] (λwz hz=>(my a8 hz))) ?_;refine Ax rfl (AM AR rfl (HC.out _ _ _ _ Af) (λ_ _ h=>h.ret)) rfl ?_ aFh ?kra5;rintro _ ci ⟨ee,ef,⟨⟩,ac,b6,cj⟩;revert G N h4 X hs hv O;refine eY b6 ?_;intro ck G N h4 X hs hv O;refine ⟨G,?_⟩;refine Ax rfl (AM AR rfl (HI.out _ _ _ _ Af) (λ_ _ h=>h.ret)) rfl ?_ aFh ?kra13;rintro _ cl ⟨cm,cn,⟨⟩,ag,a9⟩;revert ac G N h4 X hs hv O;refine eY a9 ?_;intro co ac G N h4 X hs hv O;refine ⟨G,?_⟩;refine Tq rfl (xB [_,_,_,_,_,_]) ?_;refine Ax rfl (A3 Ca rfl) rfl ?_ aFh Au;rintro _ cp ⟨cq,rfl,ah⟩;have ar:=ah.blk;dsimp only at ar;have ba:=ah.ext;have cr:=ah.pos;have ct:=ah.size;revert ag ac G N h4 X hs hv O;refine eE ba ?_;intro ag ac G N h4 X hs hv O;refine ⟨G,?_⟩;refine Aq rfl (eS [_,_,_,_,_,_] ar ?_);intro cu cv bb cw;revert ag ac N h4 X hs hv O;refine eF bb ?_;intro ag ac N h4 X hs hv O;refine Al ?_;rotate_left;refine Ax rfl (A3 Ca rfl) rfl ?_ aFh Au;rintro _ cx ⟨cy,rfl,ai⟩;have aj:=ai.blk;dsimp only at aj;have bc:=ai.ext;have cz:=ai.pos;have c0:=ai.size;revert ac G N h4 X hs hv O;refine eE bc ?_;intro ac G N h4 X hs hv O;refine ⟨G,?_⟩;refine tC rfl rfl (HI.out _ _ _ _ Af) ?_;rintro _ c1 ⟨c2,c3,⟨⟩,au,bd⟩;revert aj ac G N h4 X hs hv O;refine eY bd ?_;intro c4 aj ac G N h4 X hs hv O;refine ⟨G,?_⟩;refine Tq rfl (xB [_,_,_,_,_,_]) ?_;refine Aq rfl (eS [_,_,_,_,_,_] aj ?_);intro c5 c6 be c7;revert au ac N h4 X hs hv O;refine eF be ?_
    intro au ac N h4 X hs hv O;refine Al ?_;rotate_left;refine Ax rfl (A3 Ca rfl) rfl ?_ aFh Au;rintro _ c8 ⟨c9,rfl,ak⟩;have ae:=ak.blk;dsimp only at ae;have bf:=ak.ext;have da:=ak.pos;have db:=ak.size;revert G N h4 X hs hv O;refine eE bf ?_;intro G N h4 X hs hv O;refine ⟨G,?_⟩;refine tC rfl rfl (HC.out _ _ _ _ Af) ?_;rintro _ dc ⟨dd,de,⟨⟩,al,bg,df⟩;revert ae G N h4 X hs hv O;refine eY bg ?_;intro dg ae G N h4 X hs hv O;refine ⟨G,?_⟩;refine tC rfl rfl (HI.out _ _ _ _ Af) ?_;rintro _ dh ⟨di,dk,⟨⟩,av,bh⟩;revert al ae G N h4 X hs hv O;refine eY bh ?_;intro dl al ae G N h4 X hs hv O;refine ⟨G,?_⟩;refine Tq rfl (xB [_,_,_,_,_,_]) ?_;refine Aq rfl (eS [_,_,_,_,_,_] ae ?_);intro dm dn bi dp;revert av al N h4 X hs hv O;refine eF bi ?_;intro av al N h4 X hs hv O;refine Al ?_;rotate_left
   all_goals exact BC (_,_,_,_,_) sC ⟨Af,nA Af (λb h=>⟨Ab,Ab,Ab⟩),mD Af (λb h=>⟨Ab,Ab,Ab⟩),Ab,Ab,Af,Af,Af,Af,Af⟩
 . clear h4 N hs X;rintro ⟨bq,bj,b7,bk,b9⟩ w1 ⟨Z,V,Y,o1,o2,bl,aa,ab,hs,X⟩;simp only at Z V Y o1 o2 bl;have hp:=hs.procs;have hz:=gP w1.heap.size;clear hs HI HC;refine eK ?_;refine AF (ι:=Nat×List PD×oA×Nat) (λx=>[(1,.pointer (some ⟨b1,0,none⟩)),(2,.pointer (some ⟨b8,0,none⟩)),(3,.pointer (some ⟨bq,0,none⟩)),(14,.slice pa g.procs.length pc),(15,.int .i64 g.procs.length),(16,.int .i64 x.1)])
    (λx w'=>OwnL EN w' w1.heap.size 116 (.slice x.2.2.1 x.2.1.length x.2.2.2) x.2.1/\x.2.1=g.procs.take x.1/\x.1<=g.procs.length/\Blk w' bq [.slice bj g.vars.length b7,.slice x.2.2.1 x.2.1.length x.2.2.2,.int .u8 g.main.kind,.int .i64 g.main.num,str g.main.name,.slice bk g.main.kids.length b9]/\VDs (λb=>b8<b/\b≠bq/\b<w1.heap.size) w' g.vars bj/\g.main.sits (λb=>b8<b/\b≠bq/\b<w1.heap.size) w' bk /\
     Blk w' b1 [.slice va g.vars.length vc,.slice pa g.procs.length pc,.int .u8 g.main.kind,.int .i64 g.main.num,str g.main.name,.slice ma g.main.kids.length mc]/\Blk w' b8 [.slice none 0 0,.slice none 0 0,.int .u8 0,.int .i64 0,str [],.slice none 0 0]/\PDs (· < w.heap.size) w' g.procs pa/\Ext w w'/\w1.heap.size<=w'.heap.size)
    (λx=>g.procs.length-x.1) (0,[],none,0) sB ⟨OwnL.nil,AQ,gI _,Z,V,Y,aa,ab,hp,X,hz⟩ ?_
   clear Z V Y aa ab hp X hz;rintro ⟨j,xs,ra,rc⟩ w3 ⟨M,an,hj,Z,V,Y,aa,ab,hp,X,hz⟩;simp only at M an hj Z;have bm:∀g',(iA ra xs.length rc).ownBlock=some g'->w1.heap.size<=g'/\g'<w3.heap.size:=λg' h=>⟨M.ge h,M.lt h⟩
   have eg:xs.length<=1000000:=by rw [an,iE];omega
   refine m7 (m:=[(1,.pointer (some ⟨b1,0,none⟩)),(2,.pointer (some ⟨b8,0,none⟩)),(3,.pointer (some ⟨bq,0,none⟩)),(14,.slice pa g.procs.length pc),(15,.int .i64 g.procs.length),(16,.int .i64 (j:Int))]) ?_ sB;by_cases az:j<g.procs.length
   . obtain ⟨kb,ko,rfl,kS,hk⟩:=mM hp Ab;obtain ⟨xa,xc,ya,yc,rx,vx,sx⟩:=hk j _ (fY az);have eh:=HQ.out _ (gK az);have HX:=fZ (Jl g.procs[j].body Ab);have HC:=fZ (Hz g.procs[j].params Ab);have a0:xs++[g.procs[j]]=g.procs.take (j+1):=by rw [an];exact (gC az).symm
     clear hk HQ an;generalize g.procs[j]=x at *;refine eK ?_;refine xA [_,_,_,_,_,_] ?_;intro ei ej ca;refine eI [_,_,_,_,_,_] ca ?_;intro bn ad cb ek el;revert M Z V Y ab X aa hp rx vx sx;refine eE cb ?_;intro M Z V Y ab X aa hp rx vx sx;refine cT (Ap (λwz=>Ext bn wz) 12 (.pure 0 (.pure 1 (.pure 2 (.pure 3 (.pure 4 (.pure 5 (.pure 7 (.pure 8 (.fork 6 (.fork 9 (.pure 10 (.fork 11 .tail .none)) .none) .none))))))))) mixed AR (Ae (Aa (Aa (Ae (Aa Ag))))) ?_);intro cc aw _;have U:(λwz=>Ext bn wz) cc:=aw;simp only at U;have ao:=ad;have aq:=M;have a1:=Z;have a2:=V;have a3:=Y;have a4:=ab;have a5:=aa;have bo:=hp;have bp:=rx;have br:=vx;have bs:=sx;revert ad M Z V Y ab X aa hp rx vx sx;refine eY aw ?_;intro dq ad M Z V Y ab X aa hp rx vx sx;refine ⟨U,?_⟩;refine eT ?_;refine Tq rfl (xL [_,_,_,_] (λwz hz=>(my ao hz))) ?_;refine tC rfl rfl (HC.out _ _ _ _ Af) ?_;rintro _ dr ⟨ds,dt,⟨⟩,af,bt,du⟩;revert U ad M Z V Y ab X aa hp rx vx sx;refine eY bt ?_;intro dv U ad M Z V Y ab X aa hp rx vx sx;refine ⟨U,?_⟩;refine tC rfl rfl (HX.out _ _ _ _ Af) ?_;rintro _ dw ⟨dx,dy,⟨⟩,ap,bu⟩;revert af U ad M Z V Y ab X aa hp rx vx sx;refine eY bu ?_;intro dz af U ad M Z V Y ab X aa hp rx vx sx;refine ⟨U,?_⟩;refine Tq rfl (xB [_,_,_,_,_,_]) ?_;refine Ax rfl (xS [_,_,_,_,_,_]) rfl ?_ aFh Au;rintro _ d0 ⟨d1,rfl,am,d2⟩;have bv:=am.blk;have bw:=am.ext;have d3:=am.pos;have d4:=am.size;revert ap af U ad M Z V Y ab X aa hp rx vx sx;refine eE bw ?_;intro ap af U ad M Z V Y ab X aa hp rx vx sx;refine ⟨U,?_⟩;clear ao aq a1 a2 a3 a4 a5 bo bp br bs U;refine Aq rfl ?_;refine Az (GA (sh:=EN) (z:=x) Ac Ca rfl rfl rfl rfl AR rfl rfl rfl Af (mJ Af) ⟨_,_,_,_,rfl,nA Af (λb h=>⟨Ab,λe=>by have:=bm _ e;omega⟩),mD Af (λb h=>⟨Ab,λe=>by have:=bm _ e;omega⟩),Af⟩ Ab Ab) rfl ?_ aFh;rintro _ d5 ⟨d6,bz,rfl,ax,ay⟩
     have d7:=ay.size;clear bv ap af ad M;revert Z V Y ab X aa hp rx vx sx;refine eF ay ?_;intro Z V Y ab X aa hp rx vx sx;refine C1 Pf (eV [_] [_,_,_,_,_,_] Z ?_);intro d8 d9 bx ea;clear Z;revert ax V Y ab X aa hp rx vx sx;refine eF bx ?_;intro ax V Y ab X aa hp rx vx sx;refine eK ?_;exact Av (j+1,xs++[x],some ⟨_,0,none⟩,_) sB ⟨Af,a0,by simp only;omega,Af,V,Y,aa,ab,hp,X,Ab⟩ (by simp only;omega)
   . have cd:j=g.procs.length:=by omega
     subst cd;rw [gL] at an;refine eK ?_;refine eS [_,_,_,_,_,_] ab ?_;intro em ce cf en;revert M Z V Y aa hp X;refine eF cf ?_;intro M Z V Y aa hp X;refine kX ce ?_;exact aK an V bl M Y X (λb h=>by omega) (λb h=>by omega) Ab
abbrev Bf:=lB
structure AtV where
 s:Bf
 n:Bf
 ok:Bool
 deriving DecidableEq
def CE (L:List AtV) (s n:Bf):Bool:=L.any λa=>decide (a.s=s)&&(decide (a.n=n)&&a.ok)
def Dx (L:List AtV) (s n:Bf):Nat:=L.countP λa=>decide (a.s=s)&&decide (a.n=n)
def Dy (L:List AtV) (s:Bf):Nat:=L.countP λa=>decide (a.s=s)
def Hi (L:List AtV) (s n:Bf) (ok:Bool):List AtV:=if CE L s n then L else L++[⟨s,n,ok⟩]
def Cy (L:List AtV) (s:Bf):List (Bf×Int)->Int
 | []=>0
 | e::es=>(if CE L s e.1 then e.2 else 0)+Cy L s es
section sort
variable {α:Type} (lt:α->α->Bool)
def Cw (x:α):List α->List α
 | []=>[x]
 | y::r=>if lt x y then y::Cw x r else x::y::r
def E6 (x:α):List α->List α
 | []=>[x]
 | y::r=>if lt y x then y::E6 x r else x::y::r
def Ft (l:List α):List α:=(l.foldl (λa x=>Cw lt x a) []).reverse
variable {lt}
def mem_insRev {x z:α}:∀ {l:List α},z∈Cw lt x l↔z=x\/z∈l
 | []=>by simp [Cw]
 | y::r=>by
  unfold Cw;split
  . simp only [gT,mem_insRev (l:=r)];exact or_left_comm
  . simp
def mem_insL {x z:α}:∀ {l:List α},z∈E6 lt x l↔z=x\/z∈l
 | []=>by simp [E6]
 | y::r=>by
  unfold E6;split
  . simp only [gT,mem_insL (l:=r)];exact or_left_comm
  . simp
structure Tot (lt:α->α->Bool):Prop where
 irr:∀x,lt x x=false
 tr:∀x y z,lt x y=true->lt y z=true->lt x z=true
 tot:∀x y,x≠y->lt x y=true\/lt y x=true
def Iy (h:Tot lt) {x:α}:∀ {l:List α},l.Pairwise (λa b=>lt b a=true)->x∉l->(Cw lt x l).Pairwise (λa b=>lt b a=true)
 | [],_,_=>by simp [Cw]
 | y::r,O,M=>by
  obtain ⟨U,X⟩:=List.pairwise_cons.1 O;simp only [gT,not_or] at M;unfold Cw;split
  . rename_i N;refine List.pairwise_cons.2 ⟨λz G=>?_,Iy h X M.2⟩;rcases mem_insRev.1 G with rfl|G
    . exact N
    . exact U z G
  . rename_i N;have V:lt y x=true:=(h.tot x y M.1).resolve_left N;refine List.pairwise_cons.2 ⟨λz G=>?_,O⟩;rcases gT.1 G with rfl|G
    . exact V
    . exact h.tr _ _ _ (U z G) V
def KN (h:Tot lt) {x:α}:∀ {l:List α},l.Pairwise (λa b=>lt a b=true)->x∉l->(E6 lt x l).Pairwise (λa b=>lt a b=true)
 | [],_,_=>by simp [E6]
 | y::r,O,M=>by
  obtain ⟨U,X⟩:=List.pairwise_cons.1 O;simp only [gT,not_or] at M;unfold E6;split
  . rename_i N;refine List.pairwise_cons.2 ⟨λz G=>?_,KN h X M.2⟩;rcases mem_insL.1 G with rfl|G
    . exact N
    . exact U z G
  . rename_i N;have V:lt x y=true:=(h.tot x y M.1).resolve_right N;refine List.pairwise_cons.2 ⟨λz G=>?_,O⟩;rcases gT.1 G with rfl|G
    . exact V
    . exact h.tr _ _ _ V (U z G)
def L5 {z:α}:∀(l a:List α),z∈l.foldl (λa x=>Cw lt x a) a↔z∈l\/z∈a
 | [],a=>by simp
 | x::l,a=>by
  rw [List.foldl_cons,L5 l,mem_insRev,gT];constructor
  . rintro (h|h|h)<;>simp [h]
  . rintro ((h|h)|h)<;>simp [h]
def KO (h:Tot lt):∀(l a:List α),l.Nodup->(∀x∈l,x∉a)->a.Pairwise (λx y=>lt y x=true)->(l.foldl (λa x=>Cw lt x a) a).Pairwise (λx y=>lt y x=true)
 | [],_,_,_,G=>G
 | x::l,a,U,N,G=>by
  obtain ⟨V,X⟩:=List.nodup_cons.1 U;refine KO h l _ X (λy O M=>?_) (Iy h G (N x AQ));rcases mem_insRev.1 M with rfl|M
  . exact V O
  . exact N y (by simp [O]) M
def UD {z:α} {l:List α}:z∈Ft lt l↔z∈l:=by
 unfold Ft;rw [List.mem_reverse,L5];simp
def OL (h:Tot lt) {l:List α} (G:l.Nodup):(Ft lt l).Pairwise (λa b=>lt a b=true):=by
 unfold Ft;rw [List.pairwise_reverse];exact KO h l [] G AQ List.Pairwise.nil
def GM (h:Tot lt) {l:List α} (M:l.Pairwise (λa b=>lt a b=true)):l.Nodup:=
 M.imp λ{a b} G e=>by subst e;rw [h.irr] at G;cases G
def KP (h:Tot lt):∀ {l m:List α},l.Pairwise (λa b=>lt a b=true)->m.Pairwise (λa b=>lt a b=true)->(∀x,x∈l↔x∈m)->l=m
 | [],[],_,_,_=>rfl
 | [],y::m,_,_,G=>absurd ((G y).2 AQ) AQ
 | x::l,[],_,_,G=>absurd ((G x).1 AQ) AQ
 | x::l,y::m,X,Y,G=>by
  have O:=GM h X;have U:=GM h Y;obtain ⟨Z,h2⟩:=List.pairwise_cons.1 X;obtain ⟨h3,h4⟩:=List.pairwise_cons.1 Y;have V:x=y:=by
   rcases gT.1 ((G x).1 AQ) with e|hx
   . exact e
   . rcases gT.1 ((G y).2 AQ) with e|hy
     . exact e.symm
     . have:=h.tr _ _ _ (h3 x hx) (Z y hy);rw [h.irr] at this;cases this
  subst V;rw [KP h h2 h4 (λz=>?_)];constructor
  . intro N;rcases gT.1 ((G z).1 (by simp [N])) with rfl|M
    . exact absurd N (List.nodup_cons.1 O).1
    . exact M
  . intro N;rcases gT.1 ((G z).2 (by simp [N])) with rfl|M
    . exact absurd N (List.nodup_cons.1 U).1
    . exact M
end sort
def If (x y:Bf):Bool:=decide (x<y)
def nlt_tot:Tot If where
 irr:=λx=>by simp [If,List.lt_irrefl]
 tr:=λx y z G M=>by
  simp only [If,decide_eq_true_eq] at *;exact List.lt_trans G M
 tot:=λx y h=>by
  simp only [If,decide_eq_true_eq];rcases Decidable.em (x<y) with G|G
  . exact gA G
  . rcases Decidable.em (y<x) with M|M
    . exact gB M
    . exact absurd (List.le_antisymm (List.not_lt.1 M) (List.not_lt.1 G)) h
def Nw (L:List AtV) (es:List (Bf×Int)) (x y:Bf):Bool:=
 decide (Cy L y es<Cy L x es\/(Cy L x es=Cy L y es/\(Dy L x<Dy L y\/(Dy L x=Dy L y/\x<y))))
def YL (L:List AtV) (es:List (Bf×Int)):Tot (Nw L es) where
 irr:=λx=>by
  have:=List.lt_irrefl x;simp [Nw,this]
 tr:=λx y z G M=>by
  simp only [Nw,decide_eq_true_eq] at *;have N:x<y->y<z->x<z:=λa b=>List.lt_trans a b
  rcases G with G|⟨G,V|⟨V,O⟩⟩<;>rcases M with M|⟨M,X|⟨X,U⟩⟩ <;>
   first
    | exact gA Ab
    | exact gB ⟨Ab,gA Ab⟩
    | exact gB ⟨Ab,gB ⟨Ab,N O U⟩⟩
 tot:=λx y h=>by
  simp only [Nw,decide_eq_true_eq];have N:=nlt_tot.tot x y h;simp only [If,decide_eq_true_eq] at N;rcases Int.lt_trichotomy (Cy L x es) (Cy L y es) with G|G|G
  . exact gB (gA G)
  . rcases lC (Dy L x) (Dy L y) with M|M|M
    . exact gA (gB ⟨G,gA M⟩)
    . rcases N with N|N
      . exact gA (gB ⟨G,gB ⟨M,N⟩⟩)
      . exact gB (gB ⟨G.symm,gB ⟨M.symm,N⟩⟩)
    . exact gB (gB ⟨G.symm,gA M⟩)
  . exact gA (gA G)
def Bj (L:List AtV):List Bf:=L.foldl (λo a=>if a.s∈o then o else o++[a.s]) []
def E7 (lt:Bf->Bf->Bool) (L:List AtV):List Bf:=L.foldl (λo a=>if a.s∈o then o else E6 lt a.s o) []
def Ig {lt:Bf->Bf->Bool} (h:Tot lt):∀(L:List AtV) (o:List Bf),o.Pairwise (λa b=>lt a b=true) ->
 (L.foldl (λo a=>if a.s∈o then o else E6 lt a.s o) o).Pairwise (λa b=>lt a b=true) /\ ∀z,z∈L.foldl (λo a=>if a.s∈o then o else E6 lt a.s o) o↔z∈o \/ ∃a∈L,a.s=z
 | [],o,M=>⟨M,λz=>by simp⟩
 | a::L,o,M=>by
  rw [List.foldl_cons];by_cases N:a.s∈o
  . rw [AT N];obtain ⟨O,U⟩:=Ig h L o M;refine ⟨O,λz=>(U z).trans ?_⟩;constructor
    . rintro (h|⟨b,G,e⟩)
      . exact gA h
      . exact gB ⟨b,by simp [G],e⟩
    . rintro (h|⟨b,G,e⟩)
      . exact gA h
      . rcases gT.1 G with rfl|G
        . exact gA (e▸N)
        . exact gB ⟨b,G,e⟩
  . rw [AC N];obtain ⟨O,U⟩:=Ig h L _ (KN h M N);refine ⟨O,λz=>(U z).trans ?_⟩;rw [mem_insL];constructor
    . rintro ((h|h)|⟨b,G,e⟩)
      . exact gB ⟨a,AQ,h.symm⟩
      . exact gA h
      . exact gB ⟨b,by simp [G],e⟩
    . rintro (h|⟨b,G,e⟩)
      . exact gA (gB h)
      . rcases gT.1 G with rfl|G
        . exact gA (gA e.symm)
        . exact gB ⟨b,G,e⟩
def Fu:∀(L:List AtV) (o:List Bf),o.Nodup->(L.foldl (λo a=>if a.s∈o then o else o++[a.s]) o).Nodup /\ ∀z,z∈L.foldl (λo a=>if a.s∈o then o else o++[a.s]) o↔z∈o \/ ∃a∈L,a.s=z
 | [],o,M=>⟨M,λz=>by simp⟩
 | a::L,o,M=>by
  rw [List.foldl_cons];by_cases N:a.s∈o
  . rw [AT N];obtain ⟨O,U⟩:=Fu L o M;refine ⟨O,λz=>(U z).trans ?_⟩;constructor
    . rintro (h|⟨b,G,e⟩)
      . exact gA h
      . exact gB ⟨b,by simp [G],e⟩
    . rintro (h|⟨b,G,e⟩)
      . exact gA h
      . rcases gT.1 G with rfl|G
        . exact gA (e▸N)
        . exact gB ⟨b,G,e⟩
  . rw [AC N];have X:(o++[a.s]).Nodup:=by
     rw [List.nodup_append];exact ⟨M,AQ,λx Y y V e=>N (by simp only [iB] at V;rw [<-V,<-e];exact Y)⟩
    obtain ⟨O,U⟩:=Fu L _ X;refine ⟨O,λz=>(U z).trans ?_⟩;rw [jA,iB];constructor
    . rintro ((h|h)|⟨b,G,e⟩)
      . exact gA h
      . exact gB ⟨a,AQ,h.symm⟩
      . exact gB ⟨b,by simp [G],e⟩
    . rintro (h|⟨b,G,e⟩)
      . exact gA (gA h)
      . rcases gT.1 G with rfl|G
        . exact gA (gB e.symm)
        . exact gB ⟨b,G,e⟩
def Nx {lt:Bf->Bf->Bool} (h:Tot lt) (L:List AtV) {G:List Bf} (M:G.Nodup) (N:∀z,z∈G↔z∈Bj L):Ft lt G=E7 lt L:=by
 obtain ⟨O,U⟩:=Ig h L [] List.Pairwise.nil;obtain ⟨-,V⟩:=Fu L [] List.nodup_nil;refine KP h (OL h M) O (λz=>?_);rw [UD,N z];exact (V z).trans (U z).symm
structure AtR where
 s:Bf
 k:Nat
 ok:Bool
def E8 (R:List AtR) (s:Bf) (k:Nat):Bool:=R.any λa=>decide (a.s=s)&&(decide (a.k=k)&&a.ok)
def Wm (R:List AtR) (s:Bf) (k:Nat) (ok:Bool):List AtR:=if E8 R s k then R else R++[⟨s,k,ok⟩]
def FY (R:List AtR) (s:Bf):Nat->List Int->Int
 | _,[]=>0
 | k,p::ps=>(if E8 R s k then p else 0)+FY R s (k+1) ps
def Gj (R:List AtR) (s:Bf) (k:Int):Nat:=R.countP λa=>decide (a.s=s)&&(decide (k<0)||decide ((a.k:Int)=k))
def UE (ns:List Bf) (n:Bf):Nat:=ns.findIdx (λm=>decide (m=n))
def GV (ns:List Bf) (L:List AtV):List AtR:=L.map λa=>⟨a.s,UE ns a.n,a.ok⟩
def Qr {ns:List Bf} (N:ns.Nodup) {n:Bf} {k:Nat} (G:ns[k]? = some n):UE ns n=k:=by
 have h:=(List.getElem?_eq_some_iff.1 G).1;have M:=(List.getElem?_eq_some_iff.1 G).2;unfold UE;rw [List.findIdx_eq h];refine ⟨by simp [M],λj O=>?_⟩;have:ns[j]≠ns[k]:=λe=>by
  have:=(List.getElem_inj N).1 e;omega
 simpa [M] using this
def OM {ns:List Bf} (M:ns.Nodup) {a n:Bf} {k:Nat} (O:a∈ns) (G:ns[k]? = some n):decide (UE ns a=k)=decide (a=n):=by
 obtain ⟨j,N,rfl⟩:=List.mem_iff_getElem.1 O;have U:=Qr M (fY N);rw [U];by_cases h:j=k
 . subst h;rw [fY N] at G;simp [gJ G]
 . have:ns[j]≠n:=λe=>by
    have V:=(List.getElem?_eq_some_iff.1 G).2;exact h ((List.getElem_inj M).1 (e.trans V.symm))
   simp [h,this]
section
variable {ns:List Bf} {L:List AtV}
def L7 (M:ns.Nodup) (N:∀a∈L,a.n∈ns) {n:Bf} {k:Nat} (O:ns[k]? = some n) (s:Bf):E8 (GV ns L) s k=CE L s n:=by
 unfold E8 CE GV;rw [List.any_map];apply jV.2;simp only [lh,Function.comp];constructor
 . rintro ⟨a,G,h⟩;rw [OM M (N a G) O] at h;exact ⟨a,G,h⟩
 . rintro ⟨a,G,h⟩;exact ⟨a,G,by rw [OM M (N a G) O];exact h⟩
def Wn (h:ns.Nodup) (G:∀a∈L,a.n∈ns) {n:Bf} {k:Nat} (M:ns[k]? = some n) (s:Bf):Gj (GV ns L) s k=Dx L s n:=by
 unfold Gj Dx GV;rw [List.countP_map];refine List.countP_congr λa N=>?_
 have O:decide ((k:Int)<0)=false:=by simp
 have U:decide ((UE ns a.n:Int)=(k:Int))=decide (UE ns a.n=k):=decide_eq_decide.2 Int.ofNat_inj;simp only [Function.comp,O,U,Bool.false_or,OM h (G a N) M]
def Ny (s:Bf) (h:k<0):Gj (GV ns L) s k=Dy L s:=by
 unfold Gj Dy GV;rw [List.countP_map];refine List.countP_congr λa _=>?_
 simp [Function.comp,h]
def YM (h:ns.Nodup) (M:∀a∈L,a.n∈ns) {n:Bf} {k:Nat} (G:ns[k]? = some n) (s:Bf) (ok:Bool):Wm (GV ns L) s k ok=GV ns (Hi L s n ok):=by
 unfold Wm Hi;rw [L7 h M G];split
 . rfl
 . simp [GV,Qr h G]
def YN (G:∀a∈L,a.n∈ns) {n:Bf} (M:n∈ns) (s:Bf) (ok:Bool):∀a∈Hi L s n ok,a.n∈ns:=by
 unfold Hi;split
 . exact G
 . intro a N;rcases jA.1 N with h|h
   . exact G a h
   . simp only [iB] at h;subst h;exact M
def Td {es:List (Bf×Int)} (M:(es.map (·.1)).Nodup) (N:∀a∈L,a.n∈es.map (·.1)) (s:Bf):∀(G:List (Bf×Int)) (k:Nat),(∀i,G[i]? = es[k+i]?)->FY (GV (es.map (·.1)) L) s k (G.map (·.2))=Cy L s G
 | [],_,_=>rfl
 | f::G,k,h=>by
  have O:=h 0;simp only [gX,kH] at O;have U:(es.map (·.1))[k]? = some f.1:=by rw [iD,<-O];rfl
  simp only [iO,FY,Cy];rw [L7 M N U,Td M N s G (k+1) (λi=>by have:=h (i+1);simpa [lG,lL 1] using this)]
def UF:(GV ns L).map (·.s)=L.map (·.s):=by simp [GV,Function.comp_def]
end
open Go.ChangeMaps (setBlock)
def L8 (es:List MapEntry) (clock:Nat):Prop:=(es.map (·.born)).Nodup /\ ∀e∈es,e.born<clock
def MapB (w:wD) (r:Nat) (kvs:List (lB×Value)):Prop:= ∃es clock,w.heap[r]? = some (.map es clock)/\Bg es.toList kvs/\L8 es.toList clock
def MapB.is {kvs:List (lB×Value)} (h:MapB w r kvs):MapIs w r kvs:=by
 obtain ⟨es,c,G,M,-⟩:=h;exact ⟨es,c,G,M⟩
def MapB.lt {w:wD} {r:Nat} {kvs:List (lB×Value)} (h:MapB w r kvs):r<w.heap.size:=h.is.lt
def MapB.ext {kvs:List (lB×Value)} (h:MapB w r kvs) (x:Ext w w'):MapB w' r kvs:=by
 have G:=h.lt;obtain ⟨es,c,h,e⟩:=h;exact ⟨es,c,by rw [x.block G];exact h,e⟩
instance {kvs:List (lB×Value)}:LfE w w' (MapB w r kvs) (MapB w' r kvs):=⟨λx h=>Bk.MapB.ext h x⟩
def MapB.fr {kvs:List (lB×Value)} (h:MapB w r kvs) (x:Fr S w w') (G:¬S r):MapB w' r kvs:=by
 have M:=h.lt;obtain ⟨es,c,h,e⟩:=h;exact ⟨es,c,by rw [x.block r M G];exact h,e⟩
instance {kvs:List (lB×Value)}:LfF S w w' (MapB w r kvs) (¬S r) (MapB w' r kvs):=⟨λx s h=>Bk.MapB.fr h x s⟩
def ItM (w:wD) (r m:Nat) (lft:List (lB×Value)) (cur:Option (lB×Value)):Prop:=
 ∃es clock seen,w.heap[r]? = some (.mapIter (some m) clock seen clock)/\w.heap[m]? = some (.map es clock)/\L8 es.toList clock/\Bg (leftOf es seen).toList lft /\
  ∀p,cur=some p -> ∃e∈es.toList,e.key=str p.1/\e.val=p.2 /\ ∃s':Array Nat,seen=s'.push e.born
def ItM.lt {cur:Option (lB×Value)} (h:ItM w r m G cur):r<w.heap.size/\m<w.heap.size/\r≠m:=by
 obtain ⟨es,c,N,O,M,-⟩:=h;refine ⟨(Array.getElem?_eq_some_iff.1 O).1,(Array.getElem?_eq_some_iff.1 M).1,λe=>?_⟩;subst e;rw [O] at M;cases M
def ItM.ext {cur:Option (lB×Value)} (h:ItM w r m G cur) (x:Ext w w'):ItM w' r m G cur:=by
 obtain ⟨N,O,-⟩:=h.lt;obtain ⟨es,c,M,U,V,X⟩:=h;exact ⟨es,c,M,by rw [x.block N];exact U,by rw [x.block O];exact V,X⟩
instance {cur:Option (lB×Value)}:LfE w w' (ItM w r m G cur) (ItM w' r m G cur):=⟨λx h=>Bk.ItM.ext h x⟩
def ItM.fr {cur:Option (lB×Value)} (h:ItM w r m G cur) (x:Fr S w w') (N:¬S r /\ ¬S m):ItM w' r m G cur:=by
 obtain ⟨O,U,-⟩:=h.lt;obtain ⟨es,c,M,V,X,Y⟩:=h;exact ⟨es,c,M,by rw [x.block r O N.1];exact V,by rw [x.block m U N.2];exact X,Y⟩
instance {cur:Option (lB×Value)}:LfF S w w' (ItM w r m G cur) (¬S r /\ ¬S m) (ItM w' r m G cur):=⟨λx s h=>Bk.ItM.fr h x s⟩
section
variable {P:Program} {l:Sl} {tab:Tab} {ty:TypeId}
def Qs {es:Array MapEntry} {j:Nat} {f:MapEntry->MapEntry} (G:∀e,(f e).born=e.born):(es.modify j f).toList.map (·.born)=es.toList.map (·.born):=by
 apply ku;intro i;rw [iD,iD,l5,l5,kA];by_cases h:j=i
 . subst h;cases es[j]? <;> simp [G]
 . simp [h]
def Wo {es G:List MapEntry} {c:Nat} (h:L8 es c) (M:G.map (·.born)=es.map (·.born)):L8 G c:=by
 obtain ⟨N,O⟩:=h;refine ⟨M▸N,λe U=>?_⟩;have:e.born∈es.map (·.born):=M▸List.mem_map_of_mem U;obtain ⟨x,V,X⟩:=List.mem_map.1 this;rw [<-X];exact O x V
def L9 {t aa ab:Nat} {k:lB} {kvs:List (lB×Value)} (T:TabOk P tab) (ht:AB tab t=some (.map m e,aa)) (O:AB tab m=some (.str,ab)) (hm:MapB w r kvs) :
 ∃w1,(Instr.mapUpdate t (.map (some r)) (str k) v).run P w = .ok () w1/\MapB w1 r (F8 kvs k v)/\Fr (· = r) w w1/\w1.heap.size=w.heap.size:=by
 have hu:P.underlying t=some (.map m e):=(T _ _ _ ht).under;have hk:P.underlying m=some .string:=(T _ _ _ O).under;obtain ⟨w1,U,g2,g3,g4⟩:=MT (P:=P) (k:=k) (v:=v) T ht O hm.is;refine ⟨w1,U,?_,g3,g4⟩;obtain ⟨ac,c1,G,g6⟩:=g2;refine ⟨ac,c1,G,g6,?_⟩;obtain ⟨es,M,hh,he,Z⟩:=hm;have V:r<w.heap.size:=(Array.getElem?_eq_some_iff.1 hh).1;obtain ⟨o,h1,h2,h3⟩:=run_findKey hk (k:=k) he w;have hg:(getObj r).run P w = .ok (.map es M) w:=by simp [getObj,kV,hh]
 have h:∀ob,(setObj r ob).run P w = .ok () { w with heap:=w.heap.setIfInBounds r ob }:=λob=>by simp [setObj,kV,hh]
 cases o with
 | none=>
  simp only [Instr.mapUpdate,gO,AD hu,gF,hg,run_checkKey hk,h1,h,lM,true_and] at U;rw [<-U] at G;simp only [Array.getElem?_setIfInBounds_self,V,if_true,gE,Obj.map.injEq] at G;obtain ⟨rfl,rfl⟩:=G;obtain ⟨b1,b2⟩:=Z;refine ⟨?_,λx N=>?_⟩
  . simp only [Array.toList_push,jE,iO,lg];rw [List.nodup_append];refine ⟨b1,AQ,λa ha b ad e1=>?_⟩;obtain ⟨x,N,rfl⟩:=List.mem_map.1 ha;simp only [iB] at ad;have:=b2 x N;omega
  . simp only [Array.toList_push,jA,iB] at N;rcases N with N|rfl
    . have:=b2 x N;omega
    . simp
 | some q=>
  obtain ⟨j,u⟩:=q;obtain ⟨en,q1,q2,q3⟩:=h3 j u rfl;have X:(Instr.keyThatStays (((es[j]?).map (·.key)).getD (str k)) (str k)).run P w = .ok (str k) w:=by
   have:es[j]? = some en:=by simpa using q1
   rw [this];have Z:((⟨k.toArray⟩:ByteArray)==⟨k.toArray⟩)=true:=by rw [N7];simp
   simp [Instr.keyThatStays,q2,Instr.sameBits,Z]
  simp only [Instr.mapUpdate,gO,AD hu,gF,hg,run_checkKey hk,h1,X,h,lM,true_and] at U;rw [<-U] at G;simp only [Array.getElem?_setIfInBounds_self,V,if_true,gE,Obj.map.injEq] at G;obtain ⟨rfl,rfl⟩:=G;exact Wo Z (Qs (λe=>rfl))
def YO (w:wD) (r:Nat) (kvs:List (lB×Value)):Option Value->wD->Prop
 | none,w1=>MapB w1 r kvs/\Fr (· = r) w w1/\w1.heap.size=w.heap.size
 | some _,_=>False
def EY {y z:Operand} {t sz1 sz2:Nat} {k:lB} {kvs:List (lB×Value)} (T:TabOk P tab) (ht:AB tab t=some (.map m e,sz1)) (hkt:AB tab m=some (.str,sz2)) (hx:ev l x=some (.map (some r))) (hy:ev l y=some (str k)) (hz:ev l z=some v) (hm:MapB w r kvs) :
 BG P n l (.mapUpdate t x y z) ty w (YO w r (F8 kvs k v)):=by
 unfold BG;intro a dst pos after g next Q ha _ hn;obtain ⟨w1,h1,h2,h3,h4⟩:=L9 (P:=P) (k:=k) (v:=v) T ht hkt hm;have e1:(execOp a.eval ⟨dst,.mapUpdate t x y z,ty,pos,after,g⟩).run P w = .ok .skip w1:=by
  simp only [execOp,ha.ev hx,ha.ev hy,ha.ev hz,gO,h1,gF,hH]
 unfold km;rw [e1];exact hn w1 ⟨h2,h3,h4⟩
def Iz {t:Nat}:BG P n l (.makeMap t none) ty w (FQ λv w1=> ∃r,v = .map (some r)/\r=w.heap.size/\MapB w1 r []/\Ext w w1/\w1.heap.size=r+1):=by
 unfold BG;intro a dst pos after g next Q ha hn _;have e1:(execOp a.eval ⟨dst,.makeMap t none,ty,pos,after,g⟩).run P w = .ok (.value (.map (some w.heap.size))) (w.alloc (.map #[] 0)):=by
  simp [execOp,Instr.makeMap,newObj,kV,bind,Sem.bind,pure]
 unfold km;rw [e1];exact hn _ _ ⟨_,rfl,rfl,⟨#[],0,by show (w.heap.push _)[w.heap.size]? = _;simp,by simp [Bg],by simp [L8]⟩,(Ne w).alloc _,by show (w.heap.push _).size=_;simp⟩
def KQ {t kt sz:Nat} {kvs:List (lB×Value)} (T:TabOk P tab) (ht:AB tab t=some (.map kt e,sz)) (hx:ev l x=some (.map (some m))) (hm:MapB w m kvs) :
 BG P n l (.range t x) ty w (FQ λo w'=> ∃r,o = .pointer (some ⟨r,0,none⟩)/\w.heap.size<=r/\r<w'.heap.size/\ItM w' r m kvs none/\Ext w w'):=by
 unfold BG;intro a dst pos after g next Q ha hn _;have hu:P.underlying t=some (.map kt e):=(T _ _ _ ht).under;have hl:=hm.lt;obtain ⟨es,clock,hh,he,hb⟩:=hm;have e1:(execOp a.eval ⟨dst,.range t x,ty,pos,after,g⟩).run P w = .ok (.value (.pointer (some ⟨w.heap.size,0,none⟩))) (w.alloc (.mapIter (some m) clock #[] clock)):=by
  simp only [execOp,ha.ev hx,Instr.range,gO,AD hu,gF,hH];simp [getObj,newObj,kV,bind,Sem.bind,pure,hh]
 unfold km;rw [e1];refine hn _ _ ⟨_,rfl,gP _,?_,⟨es,clock,#[],?_,?_,hb,?_,λp hp=>by cases hp⟩,(Ne w).alloc _⟩
 . show w.heap.size<(w.heap.push _).size;rw [Array.size_push];omega
 . show (w.heap.push _)[w.heap.size]? = _;simp
 . exact (((Ne w).alloc _).block hl).trans hh
 . have:leftOf es #[]=es:=by unfold leftOf;simp
   rw [this];exact he
def Ma {e:MapEntry}:∀ {L:List MapEntry},(L.map (·.born)).Nodup->e∈L -> ∃j:Nat,L[j]? = some e/\L.filter (λx=>x.born != e.born)=L.eraseIdx j
 | [],_,h=>by cases h
 | x::L,G,h=>by
  rw [iO,List.nodup_cons] at G;obtain ⟨M,O⟩:=G;by_cases N:x=e
  . subst N;refine ⟨0,rfl,?_⟩;simp only [List.filter_cons,bne_self_eq_false,iS,if_false,List.eraseIdx_cons_zero];rw [List.filter_eq_self];intro y U;have:y.born≠x.born:=λe=>M (e▸List.mem_map_of_mem U)
    simpa using this
  . rcases gT.1 h with rfl|h
    . exact absurd rfl N
    . obtain ⟨j,V,X⟩:=Ma O h;have:x.born≠e.born:=λY=>M (Y▸List.mem_map_of_mem h)
      exact ⟨j+1,by simpa using V,by simp [List.filter_cons,this,X]⟩
def J7 {α β:Type} (f:α->β):∀(L:List α) (j:Nat),(L.eraseIdx j).map f=(L.map f).eraseIdx j
 | [],_=>by simp
 | x::L,0=>by simp
 | x::L,j+1=>by simp [J7 f L j]
def Qt (es:Array MapEntry) (h:Array Nat) (b:Nat):(leftOf es (h.push b)).toList=(leftOf es h).toList.filter (λx=>x.born != b):=by
 unfold leftOf;rw [Array.toList_filter,Array.toList_filter,List.filter_filter];congr 1;funext x;simp only [Array.contains_push,Bool.not_or,bne];rw [Bool.and_comm]
def Mb {cur:Option (lB×Value)} (hx:ev l x=some (.pointer (some ⟨r,0,none⟩))) (hi:ItM w r m G cur) (hl:G≠[]) :
 BG P n l (.next x false) ty w (FQ λo w'=> ∃(j:Nat) (p:lB×Value),G[j]? = some p/\o = .tuple #[.bool true,str p.1,p.2]/\ItM w' r m (G.eraseIdx j) (some p)/\Fr (· = r) w w'):=by
 unfold BG;intro a dst pos after g next Q ha hn _;obtain ⟨es,c,seen,h1,h2,hb,h3,-⟩:=hi;rcases run_next_at (P:=P) w ty r m c c seen es c h1 h2 hb.2 (gP _) with ⟨h0,-⟩|⟨e,he,w1,hw,hr⟩
 . have:(leftOf es seen).toList=[]:=by simpa using h0
   rw [this] at h3;unfold Bg at h3;exact absurd (List.map_eq_nil_iff.1 h3.symm) hl
 . have hsub:(leftOf es seen).toList.Sublist es.toList:=by unfold leftOf;rw [Array.toList_filter];exact List.filter_sublist
   have hes:e∈es.toList:=hsub.subset he;obtain ⟨j,g1,g2⟩:=Ma ((hsub.map (·.born)).nodup hb.1) he;have g3:((leftOf es seen).toList.map λe=>(e.key,e.val))[j]? = some (e.key,e.val):=by rw [iD,g1];rfl
   unfold Bg at h3;rw [h3,iD] at g3;obtain ⟨p,hp,hpe⟩:=lz.1 g3;obtain ⟨k1,k2⟩:=Prod.mk.inj hpe;have hW:w1.heap=w.heap:=by rcases hw with rfl|rfl<;>rfl
   have X1:Ext w w1:=by rcases hw with rfl|rfl;exact Ne _;exact (Ne w).drew
   obtain ⟨p1,p2⟩:=IC w1 r _ (.mapIter (some m) c (seen.push e.born) c) (by rw [hW];exact h1);have hne:r≠m:=λq=>by subst q;rw [h1] at h2;cases h2
   have e1:(execOp a.eval ⟨dst,.next x false,ty,pos,after,g⟩).run P w = .ok (.value (.tuple #[.bool true,e.key,e.val])) (setBlock w1 r (.mapIter (some m) c (seen.push e.born) c)):=by
    simp only [execOp,ha.ev hx,gO,hr,gF,hH]
   unfold km;rw [e1];refine hn _ _ ⟨j,p,hp,by rw [<-k1,<-k2],⟨es,c,seen.push e.born,p1,?_,hb,?_,λq hq=>?_⟩,(mt X1).trans p2⟩
   . have hm:m<w1.heap.size:=by rw [hW];exact (Array.getElem?_eq_some_iff.1 h2).1
     exact (p2.block m hm (λq=>hne q.symm)).trans (by rw [hW];exact h2)
   . unfold Bg;rw [Qt,g2,J7,h3,J7]
   . obtain rfl:=gJ hq;exact ⟨e,hes,k1.symm,k2.symm,seen,rfl⟩
def KR {cur:Option (lB×Value)} (hx:ev l x=some (.pointer (some ⟨r,0,none⟩))) (hi:ItM w r m [] cur) :
 BG P n l (.next x false) ty w (FQ λo w'=>o = .tuple #[.bool false]/\w'=w):=by
 unfold BG;intro a dst pos after g next Q ha hn _;obtain ⟨es,c,seen,h1,h2,hb,h3,-⟩:=hi;rcases run_next_at (P:=P) w ty r m c c seen es c h1 h2 hb.2 (gP _) with ⟨-,hr⟩|⟨e,he,-⟩
 . have e1:(execOp a.eval ⟨dst,.next x false,ty,pos,after,g⟩).run P w = .ok (.value (.tuple #[.bool false])) w:=by
    simp only [execOp,ha.ev hx,gO,hr,gF,hH]
   unfold km;rw [e1];exact hn _ _ ⟨rfl,rfl⟩
 . unfold Bg at h3;rw [lg,List.map_eq_nil_iff] at h3;rw [h3] at he;cases he
def Nz {S:wD->Prop} {h:List (lB×Value)} {p:lB×Value} (M:ev l x=some (.pointer (some ⟨r,0,none⟩))) (N:∀w,S w->ItM w r m h (some p)) :
 Bm P n l S (.entry x) ty (.tuple #[str p.1,p.2]):=by
 unfold Bm;intro s w O pos after g U V;obtain ⟨es,c,G,X,Y,Z,h3,h4⟩:=N w V;obtain ⟨e,he,k1,k2,s',rfl⟩:=h4 p rfl;have:=run_entry_at (P:=P) w r m c s' es c e X Y he Z.1;simp only [execOp,U.ev M,gO,this,gF,hH,k1,k2]
end
def Es (o:List Bf) (x:Bf):List Bf:=if x∈o then o else o++[x]
def NA {k n:Bf} (h:n≠k) (o:List Bf):Es (k::o) n=k::Es o n:=by
 unfold Es;by_cases G:n∈o
 . rw [AT G,AT (jB _ G)]
 . rw [AC G,AC (λe=>(gT.1 e).elim h G),jX]
def RZ {o:List Bf} (h:o.Nodup) (n:Bf):(Es o n).Nodup:=by
 unfold Es;split
 . exact h
 . rename_i M;rw [List.nodup_append];exact ⟨h,AQ,λx N y G e=>M (by simp only [iB] at G;rw [<-G,<-e];exact N)⟩
def mem_addN {o:List Bf} {n z:Bf}:z∈Es o n↔z∈o\/z=n:=by
 unfold Es;split
 . rename_i h;exact ⟨gA,λe=>e.elim id (λe=>e▸h)⟩
 . simp
def Qu (L:List AtV) (s:Bf):List Bf:=L.foldl (λo a=>if a.s=s then Es o a.n else o) []
def Gk (L:List AtV) (a:AtV) (s:Bf):Qu (L++[a]) s=if a.s=s then Es (Qu L s) a.n else Qu L s:=by simp [Qu,List.foldl_append]
def KS (L:List AtV) (a:AtV):Bj (L++[a])=Es (Bj L) a.s:=by
 unfold Bj Es;rw [List.foldl_append,List.foldl_cons,List.foldl_nil]
def Jz (L:List AtV):(Bj L).Nodup:=(Fu L [] List.nodup_nil).1
def JA {α:Type} {p:List α->Prop} (h:p []) (G:∀l x,p l->p (l++[x])) (l:List α):p l:=by
 have:∀m:List α,p m.reverse:=λm=>by
  induction m with
  | nil=>exact h
  | cons x m M=>rw [kY];exact G _ _ M
 simpa using this l.reverse
def NB (L:List AtV) (s:Bf):(Qu L s).Nodup:=by
 refine JA (p:=λL=>(Qu L s).Nodup) (by simp [Qu]) (λL a h=>?_) L;rw [Gk];split
 . exact RZ h _
 . exact h
def Et (L:List AtV) (a:AtV) (s n:Bf):Dx (L++[a]) s n=Dx L s n+if a.s=s/\a.n=n then 1 else 0:=by
 unfold Dx;rw [List.countP_append,List.countP_singleton];by_cases h:a.s=s<;>by_cases G:a.n=n<;>simp [h,G]
def E9 (L:List AtV) (a:AtV) (s n:Bf):CE (L++[a]) s n=(CE L s n||(decide (a.s=s)&&(decide (a.n=n)&&a.ok))):=by
 unfold CE;rw [List.any_append,List.any_cons,List.any_nil,Bool.or_false]
def UG (L:List AtV) (a:AtV) (s:Bf):Dy (L++[a]) s=Dy L s+if a.s=s then 1 else 0:=by
 unfold Dy;rw [List.countP_append,List.countP_singleton];by_cases h:a.s=s<;>simp [h]
def Ka (L:List AtV) (s n:Bf):n∉Qu L s->Dx L s n=0/\CE L s n=false:=by
 refine JA (p:=λL=>n∉Qu L s->Dx L s n=0/\CE L s n=false) (λ_=>⟨rfl,rfl⟩) (λL a h G=>?_) L;rw [Gk] at G;rw [Et,E9];by_cases M:a.s=s
 . rw [AT M,mem_addN,not_or] at G;obtain ⟨N,O⟩:=h G.1;have U:¬a.n=n:=λe=>G.2 e.symm
   simp [N,O,U]
 . rw [AC M] at G;obtain ⟨N,O⟩:=h G;simp [N,O,M]
def Mc {L:List AtV} {s:Bf} (h:s∉Bj L):Qu L s=[]:=by
 revert h;refine JA (p:=λL=>s∉Bj L->Qu L s=[]) (λ_=>rfl) (λL a M G=>?_) L;rw [KS,mem_addN,not_or] at G;rw [Gk,AC (λe=>G.2 e.symm),M G.1]
def YP (L:List AtV) (s:Bf):((Qu L s).map λn=>Dx L s n).sum=Dy L s:=by
 have V:∀(o:List Bf) (f:Bf->Nat) (n:Bf),o.Nodup->(∀m,m∉o->f m=0)->((Es o n).map λm=>f m+if n=m then 1 else 0).sum=(o.map f).sum+1:=by
  intro o f n hn hf;have X:∀l:List Bf,n∉l->(l.map λm=>f m+if n=m then 1 else 0)=l.map f:=λl hl=>List.map_congr_left λm M=>by rw [AC (λe=>hl (by rw [e];exact M))];rfl
  induction o with
  | nil=>simp [Es,hf]
  | cons k o Y=>
   obtain ⟨g1,g2⟩:=List.nodup_cons.1 hn;by_cases U:n=k
   . subst U;have:Es (n::o) n=n::o:=by unfold Es;simp
     rw [this,iO,X o g1,List.sum_cons,iO,List.sum_cons];simp only [if_true];omega
   . rw [NA U,iO,List.sum_cons,iO,List.sum_cons,AC U];by_cases G:n∈o
     . have Z:Es o n=o:=by unfold Es;rw [AT G]
       have key:∀l:List Bf,l.Nodup->n∈l->(l.map λm=>f m+if n=m then 1 else 0).sum=(l.map f).sum+1:=by
        intro l
        induction l with
        | nil=>intro _ h;cases h
        | cons x l il=>
         intro hx M;obtain ⟨x1,x2⟩:=List.nodup_cons.1 hx;by_cases N:n=x
         . subst N;rw [iO,X l x1,List.sum_cons,iO,List.sum_cons];simp only [if_true];omega
         . rw [iO,List.sum_cons,iO,List.sum_cons,AC N,il x2 ((gT.1 M).resolve_left N)];omega
       rw [Z,key o g2 G];omega
     . have Z:Es o n=o++[n]:=by unfold Es;rw [AC G]
       have e2:f n=0:=hf n (by simp [G,U]);rw [Z,jE,List.sum_append,X o G];simp [e2];omega
 refine JA (p:=λL=>((Qu L s).map λn=>Dx L s n).sum=Dy L s) (by simp [Qu,Dy]) (λL a Y=>?_) L;rw [Gk,UG];by_cases O:a.s=s
 . rw [AT O,AT O,<-Y,<-V (Qu L s) (λn=>Dx L s n) a.n (NB L s) (λm M=>(Ka L s m M).1)];congr 1;refine List.map_congr_left λm _=>?_
   rw [Et];by_cases M:a.n=m<;>simp [O,M]
 . rw [AC O,AC O,<-Y,kH];congr 1;refine List.map_congr_left λm _=>?_
   rw [Et,AC (λe=>O e.1),kH]
def Hj (L:List AtV) (s n:Bf):Value:=.agg #[.int .i64 (Dx L s n),.bool (CE L s n)]
def GN (L:List AtV) (s:Bf):List (lB×Value):=(Qu L s).map λn=>(n,Hj L s n)
def Fv (f:Bf->Value) (n:Bf):∀o:List Bf,Ef (o.map λk=>(k,f k)) n=if n∈o then some (f n) else none
 | []=>rfl
 | k::o=>by
  rw [iO,Ef];by_cases h:n=k
  . subst h;simp
  . rw [AC h,Fv f n o];simp [h]
def Md {f g:Bf->Value} {n:Bf} (G:∀k,k≠n->f k=g k):∀o:List Bf,o.Nodup->F8 (o.map λk=>(k,f k)) n (g n)=(Es o n).map λk=>(k,g k)
 | [],_=>by simp [F8,Es]
 | k::o,M=>by
  obtain ⟨N,O⟩:=List.nodup_cons.1 M;rw [iO,F8];by_cases h:n=k
  . subst h;rw [AT rfl];have:Es (n::o) n=n::o:=by unfold Es;simp
    rw [this,iO];congr 1;exact List.map_congr_left λm U=>by rw [G m (λe=>N (e▸U))]
  . rw [AC h,NA h,iO,Md G o O,G k (λe=>h e.symm)]
def ON (L:List AtV) (s n:Bf):Cx (Ef (GN L s) n) (.agg #[.int .i64 0,.bool false]) false=Hj L s n:=by
 unfold GN;rw [Fv (λn=>Hj L s n)];split
 . rfl
 . rename_i h;obtain ⟨G,M⟩:=Ka L s n h;simp [Cx,Hj,G,M]
def Te (L:List AtV) (s n:Bf) (ok:Bool):F8 (GN L s) n (Hj (L++[⟨s,n,ok⟩]) s n)=GN (L++[⟨s,n,ok⟩]) s:=by
 unfold GN;rw [Gk,AT rfl];refine Md (f:=λk=>Hj L s k) (g:=λk=>Hj (L++[⟨s,n,ok⟩]) s k) (λk h=>?_) _ (NB L s);have:¬n=k:=λe=>h e.symm
 simp [Hj,Et,E9,this]
def UH (L:List AtV) {s t n:Bf} (h:t≠s) (ok:Bool):GN (L++[⟨t,n,ok⟩]) s=GN L s:=by
 unfold GN;rw [Gk,AC h];refine List.map_congr_left λk _=>?_
 simp [Hj,Et,E9,h]
def Qv (L:List AtV) (s n:Bf) (ok:Bool) (h:CE L s n=false):Hj (L++[⟨s,n,ok⟩]) s n = .agg #[.int .i64 ((Dx L s n:Int)+1),.bool ok]:=by
 simp [Hj,Et,E9,h]
def RecAt (M:nP) (w:wD) (r:Nat) (L:List AtV):Prop:= ∃bf:Bf->Nat,MapB w r ((Bj L).map λs=>(s,.map (some (bf s))))/\M r /\
 (∀s∈Bj L,M (bf s)/\bf s≠r/\MapB w (bf s) (GN L s)) /\ ∀s∈Bj L,∀t∈Bj L,bf s=bf t->s=t
def RecAt.ext {M:nP} {w w':wD} {r:Nat} {L:List AtV} (h:RecAt M w r L) (x:Ext w w'):RecAt M w' r L:=by
 obtain ⟨bf,O,U,G,V⟩:=h;exact ⟨bf,O.ext x,U,λs N=>⟨(G s N).1,(G s N).2.1,(G s N).2.2.ext x⟩,V⟩
instance {L:List AtV}:LfE w w' (RecAt S w r L) (RecAt S w' r L):=⟨λx h=>Bk.RecAt.ext h x⟩
def RecAt.fr {M:nP} {S:nP} {w w':wD} {r:Nat} {L:List AtV} (h:RecAt M w r L) (x:Fr S w w') (O:∀k,M k -> ¬S k):RecAt M w' r L:=by
 obtain ⟨bf,V,U,G,X⟩:=h;exact ⟨bf,V.fr x (O _ U),U,λs N=>⟨(G s N).1,(G s N).2.1,(G s N).2.2.fr x (O _ (G s N).1)⟩,X⟩
instance {M:nP} {L:List AtV}:LfF S w w' (RecAt M w r L) (∀k,M k -> ¬S k) (RecAt M w' r L):=⟨λx s h=>Bk.RecAt.fr h x s⟩
end Bk
