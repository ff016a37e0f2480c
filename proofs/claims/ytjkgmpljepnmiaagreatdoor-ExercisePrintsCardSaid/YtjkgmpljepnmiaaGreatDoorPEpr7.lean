/- Texts that the proofs of ExercisePrints need. No condition. (Part 7 of 8.) -/
import Derived.Test.YtjkgmpljepnmiaaGreatDoorPEpr6
set_option linter.unusedSimpArgs false
set_option linter.unusedVariables false
set_option linter.defProp false
set_option maxRecDepth 100000
set_option maxHeartbeats 4000000
open Go.Proofs.Tryz
open List renaming length_append->aU,length_cons->aV,getElem_cons_succ->aW,length_nil->aX,getElem?_eq_getElem->aY,set_cons_zero->aZ,getElem_mem->bD,take_succ_eq_append_getElem->bE,take_length->bH,mem_cons->bR,getElem?_eq_none->bS,not_mem_nil->bX,replicate->cB,append_assoc->cF,length_take->cH,flatten_cons->cI,take_append_drop->cL,drop_eq_getElem_cons->cW,all_eq_true->cX,getD_eq_getElem?_getD->dC,getElem?_append_left->dD,take_succ_cons->dE,mem_singleton->dG
open Go.Lib renaming hid->bA,indexByte->dA
open Bool renaming and_eq_true->bB,false_eq_true->dH
open Or renaming inl->bC,inr->bF
open Go.Result renaming andThen->bG
open Nat renaming zero_le->bI,le_refl->bJ,blt->bM,lt_or_ge->bQ,le_trans->cD,le_of_ble_eq_true->cE,eq_of_beq_eq_true->cQ,ble->cY,beq->cZ
open Option.some renaming injEq->bK,inj->bO
open Go.Sem renaming run_bind->bL,run_pure->bW
open Go renaming Calls->bN
open Go.IntWalk renaming i64_in->bT
open Go.Region renaming ready->bU,binds->dB
open Go.Value.slice renaming injEq->bZ
open Go.DataW renaming trod->cG
open Array renaming getElem?_eq_none->cJ
open List.cons renaming injEq->cK
open Prod.mk renaming injEq->cO
open Go.Value renaming slice->cP,ownBlock->cV,bool->dF
open Go.Addr renaming add->cU
open Bk.Ext renaming refl->dI,trans->dK,fr->eX
open Bk.Blk renaming cell->dP,fr->dQ,row->eC
open Bk.Row renaming ext->dZ,at0->fC
open Bk.Value renaming one->eL
open Bk.EX renaming cells->eP
open Bk.Le renaming refl->eU
open Bk.Arr renaming get->eW
open Bk.VDs renaming fr->fD
open Bk.Fb renaming of_ext->fE
open Bk.Nd renaming sits_mono->fF,isStmt->fJ,isExpr->fO
open Bk.VD renaming line->fG,text->fK
open Bk.PD renaming text->fH
namespace Bk
open Go Go.RowKit Go.Proofs
def OH (v:VD) (w:wD) (h:v.ok=true):Calls prog 107 #[v.val] w fun e w'=>e = .returned (str v.text)/\Ext w w':=by
 have X:=h;simp only [VD.ok,bB] at h;have Y:=Cg h.1;have F:=h.2;clear h;refine Af func107 ntmps107 rfl rfl ?_;refine eK ?_;refine IV rfl rfl rfl ?_;intro b1 Z E;have h1:=E.blk;have U:=E.ext;by_cases V:v.kind=1
 . refine C1 Pa (Ah (Ai (Aj (Aj (Ad (C1 Pf (C1 Gi (Ah (Ai (Ar (Aj ?_)))))))))));refine Ad (C1 V1 (C1 Pa (Ah (Ai (OX (Aj (Ad (C1 Pg (C1 Gi (A0 (by exact At rfl rfl (by (simp only [aV,aX];omega))) rfl ?_))))))))));refine eK ?_;refine Be results107 rfl ?_;exact ⟨CS (by simp [fK,V]),U⟩
 by_cases c2:v.kind=2
 . rw [AE Ab,AU c2] at F;simp only [bB,decide_eq_true_eq] at F;obtain ⟨L,M⟩:=F;have f:Lib.itoa v.len=Lib.decDigits v.len.toNat:=by unfold Lib.itoa;rw [AE Ab]
   have N:=Mp v.len L M;rw [f] at N;have HI:=bA f;clear f;refine C1 Pa (Ah (Ai (Aj (Aj (Ad (C1 Pf (C1 Gi (Ah (Ai (Ar (Aj ?_)))))))))));refine Ad (C1 V1 (C1 Pa (Ah (Ai (N0 (Aj (Ad (C1 V1 (C1 Pa (Ah (Ai ?_)))))))))));refine OX (Aj ?_);refine RY (fun w'=>Ext Z w') (.pure 0 (.pure 1 (.pure 2 (.pure 3 (.pure 4 (.pure 5 (.fork 6 (.pure 7 (.pure 8 (.pure 9 .done))) .none))))))) mixed Bl (by refine Aa ?_;refine Al ?_;refine Aa ?_;exact An) ?_;intro w2 x2 _;refine ⟨x2,?_⟩;refine DJ rfl (by exact DN Ac rfl rfl rfl) rfl ?_;refine DJ rfl (by exact Ax Ac rfl rfl rfl (by exact fun wz O=>by (try subst O);exact (Ext.keep Ag (dP Ag (by rfl))))) rfl ?_;refine DJ rfl (by exact At rfl rfl (by (simp only [aV,aX];omega))) rfl (DJ rfl (by exact At rfl rfl (by (simp only [aU,aV,aX];omega))) rfl (DJ rfl (by exact AS Ac rfl rfl rfl) rfl ?_));refine DJ rfl (by exact Ax Ac rfl rfl rfl (by exact fun wz O=>by (try subst O);exact (Ext.keep Ag (dP Ag (by rfl))))) rfl ?_;refine Ld rfl (Bb Bl rfl (Km (v.len.toNat+1) v.len _ Ab Ab Ab) (fun _ _ h=>⟨_,h.1⟩)) rfl ?_ aFh Lc;rintro _ w3 ⟨⟨⟩,x3⟩;refine ⟨(by refine dK ?_ Ag;assumption),?_⟩;refine DJ rfl (by exact At rfl rfl (by (simp only [aU,aV,aX];omega))) rfl (DJ rfl (by exact At rfl rfl (by (simp only [aU,aV,aX];omega))) rfl (DJ rfl (by exact ES rfl) rfl (RZ ?_)));refine eK ?_;refine Be results107 rfl ?_
   exact ⟨CS (by simp [fK,c2,HI.out]),(by refine dK ?_ Ag;refine dK ?_ Ag;assumption)⟩
 . refine C1 Pa (Ah (Ai (Aj (Aj (Ad (C1 Pf (C1 Gi (Ah (Ai (Ar (Aj ?_)))))))))));refine Ad (C1 V1 (C1 Pa (Ah (Ai (N0 (Aj (Ad (C1 V1 (C1 Pa (Ah (Ai ?_)))))))))));refine N0 (As (Ae (Ai (Aj (Ad (C1 Pg (C1 Gi (A0 (by exact At rfl rfl (by (simp only [aV,aX];omega))) rfl ?_))))))));refine eK ?_;refine Be results107 rfl ?_;exact ⟨CS (by simp [fK,V,c2]),U⟩
def RD (g:PG) (S:nP) (va:oA) (vc:Nat) (pa:oA) (pc:Nat) (ma:oA) (mc:Nat) (w:wD) (L:g.wf) (U:g.ok=true) (hs:g.sits S w va pa ma) :
 Calls prog 67 #[.agg (g.cells va vc pa pc ma mc).toArray] w fun e w'=>e = .returned (str g.text)/\Ext w w':=by
 have ae:=PG.text_len g L U;have al:=L.nv;have am:=L.np;have HK:=bA U;simp only [PG.ok,bB,decide_eq_true_eq] at U;obtain ⟨⟨⟨⟨o1,o2⟩,o3⟩,o4⟩,o5⟩:=U;obtain ⟨m1,m2,m3⟩:=GJ g.main L.main o5;have O3:=bA o3;clear o3;have O4:=bA o4;clear o4;simp only [PG.text,aU,aV,aX] at ae;refine Af func67 ntmps67 rfl rfl ?_;refine eK ?_;refine IV rfl rfl rfl ?_;intro b1 w1 af;have h1:=af.blk;have x1:=af.ext;refine eK ?_;refine AJ (ι:=Nat) (fun j=>[(4,.int .i64 j),(3,str (I8 fG (g.vars.take j))),(1,.pointer (some ⟨b1,0,none⟩))]) (fun j w'=>Ext w1 w'/\j<=g.vars.length) (fun j=>g.vars.length-j) 0 sB ⟨dI _,Ab⟩ ?_;rintro j w2 ⟨x2,hj⟩;have h2:=h1.ext x2;have ag:Ext w w2:=x1.trans x2;have ah:=Ik fG g.vars j;by_cases Z:j<g.vars.length
 . obtain ⟨kb,ko,rfl,-,f⟩:=eW (hs.vars.ext ag) Ab;have rx:Row w2 ⟨kb,ko+j*3,none⟩ g.vars[j].cells:=f j g.vars[j] (aY Z);have V:g.vars[j].ok=true:=by have:=O3.out;unfold C6 at this;exact cX.1 this _ (bD Z)
   have h:=JQ fG g.vars j Z;have M:=Ik fG g.vars (j+1);rw [h] at M;simp only [fG,aU,aV,aX] at M h ah;have HC:=bA h;clear h f;generalize g.vars[j]=v at *;refine eK ?_;refine cC rfl (OH v _ V) ?_;rintro _ w3 ⟨⟨⟩,x3⟩;refine A0 (by exact At rfl rfl Ab) rfl (A0 (by exact At rfl rfl (by (simp only [aU,aV,aX];omega))) rfl (C1 Pa (Ah (Ae (Ai (Ad (C1 Mv (C1 V7 (C1 Pa (Ah ?_))))))))));refine Aw (j+1) ?_ ⟨x2.trans x3,Ab⟩ Ab;refine Ak rfl (AW rfl ?_ (Ak rfl AY));rw [HC.out];simp
 obtain rfl:j=g.vars.length:=by omega
 rw [bH] at ah;clear hj;simp only [bH];refine eK ?_;refine AJ (ι:=Nat) (fun j=>[(5,.int .i64 j),(3,str (I8 fG g.vars++I8 fH (g.procs.take j))),(1,.pointer (some ⟨b1,0,none⟩))]) (fun j w'=>Ext w2 w'/\j<=g.procs.length) (fun j=>g.procs.length-j) 0 ?_ ⟨dI _,Ab⟩ ?_
 . refine Ak rfl (AW rfl ?_ (Ak rfl AY));simp [I8]
 rintro j w3 ⟨x3,hj⟩;have h3:=h2.ext x3;have X:Ext w w3:=ag.trans x3;have aj:=Ik fH g.procs j;by_cases F:j<g.procs.length
 . obtain ⟨kb,ko,rfl,-,f⟩:=eW (hs.procs.ext X) Ab;obtain ⟨qa,qc,ba,bc,rx,sv,sb⟩:=f j g.procs[j] (aY F);have ai:g.procs[j].ok=true:=cX.1 O4.out _ (bD F);have aa:=L.procs g.procs[j] (bD F);have h:=JQ fH g.procs j F;have M:=Ik fH g.procs (j+1);rw [h] at M;have HC:=bA h;clear h f;generalize g.procs[j]=p at *;simp only [PD.ok,bB,decide_eq_true_eq] at ai;obtain ⟨⟨⟨q1,q2⟩,q3⟩,q4⟩:=ai;obtain ⟨n1,n2,n3⟩:=GJ p.body aa.body q4;have an:=aa.len;have Q3:=bA q3;clear q3;simp only [fH,aU,aV,aX] at M;refine Aj (Aj (Ad (C1 Mv (C1 Pf (C1 Gi (C1 Pz (C1 V3 (Ah (Ai (S1 (As ?_)))))))))));refine Ai (Aj (Ar (Aj (Ad (C1 Mv (A0 (by exact At rfl rfl (by (simp only [aU,aV,aX];omega))) rfl (C1 Pf (C1 Gi (C1 Mv (C1 Pi (C1 Pg ?_)))))))))));refine A0 (by exact Ax Ac rfl rfl rfl (by exact fun wz E=>by (try subst E);exact (fC Ag (by rfl)))) rfl ?_;refine A0 (by exact At rfl rfl (by (simp only [aU,aV,aX];omega))) rfl (A0 (by exact At rfl rfl (by (simp only [aU,aV,aX];omega))) rfl ?_);refine eK ?_;refine AJ (ι:=Nat) (fun i=>[(6,.int .i64 i),(3,str (I8 fG g.vars++I8 fH (g.procs.take j)++[112,114,111,99,32]++p.name++[40]++CP fK true (p.params.take i))),(5,.int .i64 j),(1,.pointer (some ⟨b1,0,none⟩))]) (fun i w'=>Ext w3 w'/\i<=p.params.length) (fun i=>p.params.length-i) 0 ?_ ⟨dI _,Ab⟩ ?_
   . refine Ak rfl (AW rfl ?_ (Ak rfl (Ak rfl AY)));simp [CP]
   rintro i w4 ⟨O,hi⟩;have h4:=h3.ext O;have r4:=rx.ext O;have ao:Ext w w4:=X.trans O;have ak:=IC fK p.params i;by_cases N:i<p.params.length
   . obtain ⟨vb,vo,rfl,-,Y⟩:=eW (sv.ext O) Ab;have rv:Row w4 ⟨vb,vo+i*3,none⟩ p.params[i].cells:=Y i p.params[i] (aY N);have V:p.params[i].ok=true:=by have:=Q3.out;unfold C6 at this;exact cX.1 this _ (bD N)
     have ab:=KV fK p.params i N;have ac:=IC fK p.params (i+1);rw [ab] at ac;have HM:=bA ab;clear ab Y;generalize p.params[i]=v at *;by_cases ad:i=0
     . subst ad;simp only [if_true,aU,aX] at ac;refine Aj (Aj (Ad (C1 Mv (C1 Pf (C1 Gi (C1 Mv (C1 Pi (C1 Pf ?_))))))));refine A0 (by exact Ax Ac rfl rfl rfl (by exact fun wz E=>by (try subst E);exact (Row.at Ag (by rfl)))) rfl ?_;refine C1 Pz (C1 V3 (Ah (Ai (S1 (As (Ai (Aj (Ar (Aj (Aj (Ad ?_)))))))))));refine C1 Mv (C1 V5 (Ah (Ai (C9 (As (Ai (Ad (C1 Mv (C1 Pf (C1 Gi (C1 Mv ?_)))))))))));refine C1 Pi (C1 Pf ?_);refine A0 (by exact Ax Ac rfl rfl rfl (by exact fun wz E=>by (try subst E);exact (Row.at Ag (by rfl)))) rfl ?_;refine eK ?_;refine cC rfl (OH v _ V) ?_;rintro _ w5 ⟨⟨⟩,x5⟩;refine A0 (by exact At rfl rfl (by (simp only [aU,aV,aX];omega))) rfl (C1 Pa (Ah (Ae (Ai (Ad (C1 Mv (C1 V7 (C1 Pa (Ah ?_)))))))));refine Aw (1:Nat) ?_ ⟨O.trans x5,Ab⟩ (by simp;omega);refine Ak rfl (AW rfl ?_ (Ak rfl (Ak rfl AY)));rw [HM.out];simp
     . simp only [AE ad,aU,aV,aX] at ac;refine Aj (Aj (Ad (C1 Mv (C1 Pf (C1 Gi (C1 Mv (C1 Pi (C1 Pf ?_))))))));refine A0 (by exact Ax Ac rfl rfl rfl (by exact fun wz E=>by (try subst E);exact (Row.at Ag (by rfl)))) rfl ?_;refine C1 Pz (C1 V3 (Ah (Ai (S1 (As (Ai (Aj (Ar (Aj (Aj (Ad ?_)))))))))));refine C1 Mv (C1 V5 (Ah (Ai (S1 (Ad (C1 Mv (A0 (by exact At rfl rfl (by (simp only [aU,aV,aX];omega))) rfl (C1 Pa (Ah (Ai (Ad ?_)))))))))));refine C1 Mv (C1 Pf (C1 Gi (C1 Mv (C1 Pi (C1 Pf ?_)))));refine A0 (by exact Ax Ac rfl rfl rfl (by exact fun wz E=>by (try subst E);exact (Row.at Ag (by rfl)))) rfl ?_;refine eK ?_;refine cC rfl (OH v _ V) ?_;rintro _ w5 ⟨⟨⟩,x5⟩;refine A0 (by exact At rfl rfl (by (simp only [aU,aV,aX];omega))) rfl (C1 Pa (Ah (Ae (Ai (Ad (C1 Mv (C1 V7 (C1 Pa (Ah ?_)))))))));refine Aw (i+1) ?_ ⟨O.trans x5,Ab⟩ Ab;refine Ak rfl (AW rfl ?_ (Ak rfl (Ak rfl AY)));rw [HM.out];simp [ad]
   . obtain rfl:i=p.params.length:=by omega
     simp only [bH] at ak ⊢;refine Aj (Aj (Ad (C1 Mv (C1 Pf (C1 Gi (C1 Mv (C1 Pi (C1 Pf ?_))))))));refine A0 (by exact Ax Ac rfl rfl rfl (by exact fun wz E=>by (try subst E);exact (Row.at Ag (by rfl)))) rfl ?_;refine C1 Pz (C1 V3 (Ah (Ai (C9 (CB (AG (AG (A8 (Ai (Ad (C1 Mv ?_)))))))))));refine A0 (by exact At rfl rfl (by (simp only [aU,aV,aX];omega))) rfl (C1 Pf (C1 Gi (C1 Mv (C1 Pi (C1 Pf ?_)))));refine A0 (by exact Ga Ac rfl rfl rfl (by exact fun wz E=>by (try subst E);assumption) (by rfl)) rfl ?_;refine cC rfl (Mr S p.body Ab aa.body n2 ba bc 1 _ Ab Ab (sb.ext O)) ?_;rintro _ w5 ⟨⟨⟩,x5⟩;refine A0 (by exact At rfl rfl (by (simp only [aU,aV,aX];omega))) rfl (A0 (by exact At rfl rfl (by (simp only [aU,aV,aX];omega))) rfl (C1 Pa (Ah (Ae (Ai (Ad (C1 Mv (C1 V7 (C1 Pa (Ah ?_))))))))));refine Aw (j+1) ?_ ⟨x3.trans (O.trans x5),Ab⟩ Ab;refine Ak rfl (AW rfl ?_ (Ak rfl AY));rw [HC.out];simp [fH]
 . obtain rfl:j=g.procs.length:=by omega
   simp only [bH] at aj ⊢;refine Aj (Aj (Ad (C1 Mv (C1 Pf (C1 Gi (C1 Pz (C1 V3 (Ah (Ai (C9 (CB ?_)))))))))));refine AG (AG (A8 (Ai (Aj (Ad (C1 Mv (A0 (by exact At rfl rfl (by (simp only [aU,aV,aX];omega))) rfl (C1 Pf ?_))))))));refine A0 (by exact C5 Ac rfl rfl rfl (by exact fun wz E=>by (try subst E);assumption) (by rfl)) rfl ?_;refine cC rfl (Mr S g.main Ab L.main m2 ma mc 1 _ Ab Ab (hs.main.ext X)) ?_;rintro _ w4 ⟨⟨⟩,O⟩;refine A0 (by exact At rfl rfl (by (simp only [aU,aV,aX];omega))) rfl (A0 (by exact At rfl rfl (by (simp only [aU,aV,aX];omega))) rfl ?_);refine eK ?_;refine Be results67 rfl ?_;exact ⟨CS (by simp [PG.text]),X.trans O⟩
attribute [local irreducible] Go.Calls
def Xw {P:Program} {n:Nat} {l:Sl} {S:wD->Prop} {ty t t':TypeId} {x y:Operand} {a b m:Int} (h:ev l x=some (.int .i64 a)) (E:ev l y=some (.int .i64 b)) (F:min a b=m):BA P n l S (.call ⟨.builtin .min,#[x,y],#[t,t']⟩) ty (.int .i64 m):=by
 unfold BA;intro c w L pos after g f _;have e:(if b<a then b else a)=m:=by rw [<-F];split<;>omega
 simp [execOp,resolve,invoke,builtin,Builtin.min_,Builtin.min2,f.ev h,f.ev E,e]
def NC (x y:Int) (f:1<=x/\x<=1099511627777) (M:1<=y/\y<=1099511627777) (w:wD) :
 Calls prog 54 #[.int .i64 x,.int .i64 y] w fun e w'=>e = .returned (.int .i64 (F5 x y))/\Ext w w':=by
 have X:=dI w;have h1:(1099511627776:Int).tdiv y=1099511627776/y:=Int.tdiv_eq_ediv_of_nonneg Ab;have U:0<=(1099511627776:Int)/y:=Int.ediv_nonneg Ab Ab;have V:(1099511627776:Int)/y<=1099511627776:=Int.ediv_le_self _ Ab;have h:IntKind.wrap .i64 ((1099511627776:Int).tdiv y)=1099511627776/y:=by rw [h1];exact bT _ Ab
 have N:y≠0:=by omega
 by_cases E:1099511627776/y<x
 . rw [show F5 x y=1099511627777 by unfold F5;rw [AU E]];generalize (1099511627776:Int)/y=q at *;refine Af func54 ntmps54 rfl rfl ?_;refine eK ?_;refine C1 (NZ rfl rfl Ag h) ?_;refine eK ?_;refine xR ?_;exact ⟨rfl,X⟩
 . have F:=N7 f.1 f.2 M.1;have e:F5 x y=x*y:=by unfold F5;rw [AE E]
   rw [e] at F ⊢;obtain ⟨m,L⟩ : ∃m,x*y=m:=⟨_,rfl⟩;rw [L] at F ⊢;have O:IntKind.wrap .i64 (x*y)=m:=by rw [L];exact bT _ Ab
   generalize (1099511627776:Int)/y=q at *;clear h1 e;refine Af func54 ntmps54 rfl rfl ?_;refine eK ?_;refine C1 (NZ rfl rfl Ag h) ?_;refine eK ?_;refine C1 (DU rfl rfl O) ?_;refine eK ?_;refine xR ?_;exact ⟨rfl,X⟩
def Qu (p:Int×Int) (y:Int) (hp:0<=p.1/\p.1<=1000) (hq:0<=p.2/\p.2<=1000) (O:1<=y/\y<=1099511627777) (w:wD) :
 Calls prog 55 #[.agg #[.int .i64 p.1,.int .i64 p.2],.int .i64 y] w fun e w'=>e = .returned (.int .i64 (LP p y))/\Ext w w':=by
 have X:=dI w;obtain ⟨f,aa⟩:=p;simp only at hp hq;unfold LP;obtain ⟨N,rfl⟩:=Int.eq_ofNat_of_zero_le hq.1;rw [show ((N:Int)+1).toNat=N+1 by omega];have HS:=bA (fun n=>N9 f y O.1 n);have HP:=bA (fun n=>N8 f y O.1 n);have HC:=bA (fun x h w1=>NC x y h O w1);have U:=bA (fun n=>show LO f y (n+1)=(if f<=n then min ((LO f y n).1+(LO f y n).2) 1099511627777 else (LO f y n).1,F5 (LO f y n).2 y) from rfl);refine Af func55 ntmps55 rfl rfl ?_;refine cS (F1 [_,_] rfl rfl rfl ?_);intro b1 w2 M;have E:=M.blk;dsimp only at E;have x5:=M.ext;have p6:=M.pos;have z7:=M.size;have X:=X.ext x5;refine C1 Pa (cN (C1 Pa (C1 Pa (cT (Aj (cS (C1 Pf (C1 (Pl E) (C1 V7 (C1 Mv (cT ?_)))))))))));refine Ar ?_;refine AJ (ι:=Nat) (fun j=>[(1,.int .i64 y),(2,.pointer (some ⟨b1,0,none⟩)),(5,.int .i64 (LO f y j).1),(6,.int .i64 (LO f y j).2),(10,.int .i64 ((N:Int)+1)),(11,.int .i64 j)])
  (fun j w'=>j<=N+1/\Blk w' b1 [.int .i64 f,.int .i64 N]/\Ext w w') (fun j=>N+1-j) 0 sB ⟨bI _,E,X⟩ ?_
 clear E X;rintro j w1 ⟨hj,E,X⟩;by_cases ab:j<N+1
 . have hs:=HS.out j;have F:=HP.out j;have L:=U.out j;have V:=bA (HC.out _ F);generalize LO f y j=r at *;obtain ⟨r1,r2⟩:=r;simp only at hs F L V;clear U;by_cases hl:f<=(j:Int)
   . rw [AU hl] at L;refine eK ?_;refine C1 (Xw rfl rfl rfl) ?_;refine eK ?_;refine cC rfl (V.out _) ?_;rintro _ ac ⟨⟨⟩,Y⟩;revert E X;refine eY Y ?_;intro ad E X;refine C1 Pa (Ah (Ae (Ai (Ad (C1 V7 (C1 Mv (Ah ?_)))))));exact Aw (j+1) (by rw [L];(refine Ak rfl ?_;refine Ak rfl ?_;refine Ak rfl ?_;refine Ak rfl ?_;refine Ak rfl ?_;refine Ak rfl ?_;exact AY)) ⟨Ab,Ag,X⟩ Ab
   . rw [AE hl] at L;refine eK ?_;refine cC rfl (V.out _) ?_;rintro _ ae ⟨⟨⟩,Z⟩;revert E X;refine eY Z ?_;intro af E X;refine C1 Pa (Ah (Ae (Ai (Ad (C1 V7 (C1 Mv (Ah ?_)))))));exact Aw (j+1) (by rw [L];(refine Ak rfl ?_;refine Ak rfl ?_;refine Ak rfl ?_;refine Ak rfl ?_;refine Ak rfl ?_;refine Ak rfl ?_;exact AY)) ⟨Ab,Ag,X⟩ Ab
 . obtain rfl:j=N+1:=by omega
   clear HS HP U HC;generalize (LO f y (N+1)).1=s at *;refine eK ?_;refine xR ?_;exact ⟨rfl,X⟩
def Ln:Shape (List Int) where
 sz:=1
 rep:=fun w S xs cs=> ∃a c,cs=[.slice a xs.length c]/\Rows S w (ints xs) a
 len:=fun ⟨_,_,h,_⟩=>by rw [h];rfl
 one:=fun ⟨_,_,h,_⟩=>by rw [h];rfl
 mono:=fun ⟨a,c,h,h2⟩ hS hc=>⟨a,c,h,h2.move hS (fun b o v hb h=>hc b o v hb h)⟩
 lt:=fun ⟨a,c,h,h2⟩=>⟨a,c,h,h2.lt2⟩
def OwnQ.ics {w:wD} {R:nP} {B e:Nat} {a:oA} {len cap:Nat} {xs:List (List Int)} {S:nP} (h:OwnQ Ln w R B e (.slice a len cap) xs) (M : ∀b,R b->S b) (N : ∀b,B<=b->b<w.heap.size->S b):ICs S w xs a:=by
 by_cases E:xs=[]
 . exact bC E
 . obtain ⟨g,F,L,O,U,f⟩:=h.rows E;simp only [bZ] at L;obtain ⟨rfl,-,-⟩:=L;refine bF ⟨g,0,rfl,N g O U,fun i x V=>?_⟩;obtain ⟨cs,X,a,c,rfl,Y⟩:=f i x V;exact ⟨a,c,by simpa [Ln] using X,Y.wide M⟩
def YW {S:nP} {w:wD} {xs:List Int} {a:oA} (h:Rows S w (ints xs) a):IntsAt w xs a:=h.wide fun _ _=>trivial
def OwnI.rowsI {w:wD} {B:Nat} {a:oA} {n c:Nat} {xs:List Int} {S:nP} (h:OwnI w B (.slice a n c) xs) (F : ∀k,(cP a n c).ownBlock=some k->S k):Rows S w (ints xs) a:=by
 rcases h.open with ⟨h1,f⟩|⟨g,cap,M,h1,f,L,N,O⟩
 . subst f;exact bC rfl
 . simp only [bZ] at h1;obtain ⟨rfl,-,-⟩:=h1;refine bF ⟨g,0,rfl,F g rfl,fun i v E=>?_⟩;exact (L.blk.row) i v (by rw [dD];exact E;exact (List.getElem?_eq_some_iff.1 E).1)
def CloneS (xs:List Int) (w:wD):Ending->wD->Prop:=fun e w'=> ∃a c,e = .returned (.slice a xs.length c)/\Rows (fun b=>w.heap.size<=b/\b<w'.heap.size) w' (ints xs) a/\Ext w w'
def CloneS.ret {xs:List Int} {w w':wD} {e:Ending} (h:CloneS xs w e w') : ∃v,e = .returned v:=by
 obtain ⟨_,_,h,-⟩:=h;exact ⟨_,h⟩
def VN (xs:List Int) (f:xs.length<=1000000) (S:nP) (a:oA) (c:Nat) (w:wD) (h:Rows S w (ints xs) a):Calls prog 88 #[.slice a xs.length c] w (CloneS xs w):=
 (UQ xs f a c w (YW h)).mono fun _ _ ⟨a,c,h1,h2,h3,h4⟩=>⟨a,c,h1,h2.rowsI h3,h4⟩
def aD {α:Type} (c:α->Value) (S:nP) (w:wD) (l:List α) (a:oA):Prop:=Arr S 1 (fun w b o x=>Row w ⟨b,o,none⟩ [c x]) w l a
section
variable {α:Type} {c:α->Value} {S S' T:nP} {w w':wD} {l:List α} {a:oA}
def Xx (h:aD c S w l a) (E:l≠[]) : ∃b o,a=some ⟨b,o,none⟩/\S b/\Row w ⟨b,o,none⟩ (l.map c):=by
 obtain ⟨b,o,h1,F,L⟩:=h.get (List.length_pos_iff.2 E);refine ⟨b,o,h1,F,fun i v f=>?_⟩;rw [List.getElem?_map,Option.map_eq_some_iff] at f;obtain ⟨x,M,rfl⟩:=f;have:=(L i x M).at0 rfl;rw [addr_addE,show o+i=o+i*1 by omega];exact this
where addr_addE {b o i:Nat}:(⟨b,o,none⟩:Addr).add i=⟨b,o+i,none⟩:=by unfold cU;by_cases N:i=0<;>simp [N]
end
def EN {α:Type} (c:α->Value) (h1 : ∀x,eL (c x)=true):Shape α where
 sz:=1
 rep:=fun _ _ v cs=>cs=[c v]
 len:=fun h=>by rw [h];rfl
 one:=fun h=>by rw [h];simp [h1]
 mono:=fun h _ _=>h
 lt:=fun h=>h
def OwnQ.els {α:Type} {c:α->Value} {h1 : ∀x,eL (c x)=true} {w:wD} {R:nP} {B e:Nat} {a:oA} {len cap:Nat} {xs:List α} {S:nP} (h:OwnQ (EN c h1) w R B e (.slice a len cap) xs) (M : ∀b,B<=b->b<w.heap.size->S b):aD c S w xs a:=by
 by_cases E:xs=[]
 . exact bC E
 . obtain ⟨g,F,L,N,O,f⟩:=h.rows E;simp only [bZ] at L;obtain ⟨rfl,-,-⟩:=L;refine bF ⟨g,0,rfl,M g N O,fun i x U=>?_⟩;obtain ⟨cs,V,rfl⟩:=f i x U;simpa [EN] using V
abbrev Z5 (i:Int):Value:=.int .i64 i
abbrev Ms:Shape Int:=EN Z5 (fun _=>rfl)
abbrev Mt:Shape lB:=EN str (fun _=>rfl)
def Di (vs:List VD):List (List Int):=vs.map fun v=>cB (D9 v).toNat 0
def ArrS.blkJ {C D g:Nat} {w:wD} {xs:List Int} (h:ArrS Ms C D w g xs):Blk w g (ints xs):=by
 obtain ⟨f,h1,M,F⟩:=h.ex;have e:f.flatten=ints xs:=by
  have:f=xs.map fun x=>[Value.int .i64 x]:=by
   apply List.ext_getElem? ;intro i;rw [List.getElem?_map];rcases bQ i xs.length with E|E
   . have L:f[i]? = some f[i]:=aY Ab;have:=F i xs[i] f[i] (aY E) L;rw [L,aY E];exact congrArg some this
   . rw [bS E,bS Ab];rfl
  rw [this];unfold ints;clear this h1 M F h
  induction xs with
  | nil=>rfl
  | cons x xs N=>simp [N]
 rwa [e] at h1
def ArrS.rowsJ {C D g:Nat} {w:wD} {xs:List Int} (h:ArrS Ms C D w g xs) {S:nP} (f:S g):Rows S w (ints xs) (some ⟨g,0,none⟩):=bF ⟨g,0,rfl,f,h.blkJ.row⟩
def NewSR (vs:List VD) (w:wD):Ending->wD->Prop:=fun e w'=> ∃a c ta tc,e = .returned (.tuple #[.agg #[.slice a vs.length c,.slice ta 0 tc,.slice none 0 0],.int .i64 0])/\ICs (fun b=>w.heap.size<=b/\b<w'.heap.size) w' (Di vs) a/\Ext w w'
def NewSR.ret {vs:List VD} {w:wD} {e:Ending} {w':wD} (h:NewSR vs w e w') : ∃v,e = .returned v:=by
 obtain ⟨_,_,_,_,h,-⟩:=h;exact ⟨_,h⟩
def Xy (l:List VD) (N:l.length<=1000000) (M : ¬EJ l) (S:nP) (a:oA) (c:Nat) (w:wD) (f:VDs S w l a) :
 Calls prog 97 #[.slice a l.length c,.slice none 0 0] w fun e w'=>e = .returned (.tuple #[.agg #[.slice none 0 0,.slice none 0 0,.slice none 0 0],.int .i64 3])/\Ext w w':=by
 have X:=dI w;have O:Hid (∀E,VDs S E l a->Calls prog 141 #[.slice a l.length c] E fun e w'=>e = .returned (.bool false)/\Ext E w'):=bA fun E h=>(R7 l N S a c E h).mono fun e w' ⟨q,h1,h2,h3⟩=>⟨by rw [h1,show q=false by cases q with|false=>rfl|true=>exact absurd (h2.1 rfl) M],h3⟩
 clear M;refine Af func97 ntmps97 rfl rfl ?_;refine cS (eA [_,_,_] ?_);intro b1 w2 F U p7 z8;revert f X;refine eE U ?_;intro f X;refine eK ?_;refine cC rfl (O.out _ Ag) ?_;rintro _ V ⟨⟨⟩,Y⟩;revert F f X;refine eY Y ?_;intro Z F f X;refine eK ?_;refine C1 (xB [_,_,_]) (eS [_,_,_] F ?_);intro aa ab L ac;clear F f;have X:=X.fr L Ab;refine C1 Pa (cT (BD (AL ?_)));refine FW rfl Ac rfl rfl rfl Ag rfl rfl ?_;exact ⟨rfl,X⟩
def Xz (l:List VD) (hv:EJ l) (S:nP) (a:oA) (c:Nat) (w:wD) (L:VDs S w l a) :
 Calls prog 97 #[.slice a l.length c,.slice none 0 0] w (NewSR l w):=by
 have X:=dI w;replace L:VDs (· < w.heap.size) w l a:=L.lt2.wide fun _ h=>h.2
 have hl:l.length<=1000000:=by have:=hv.1;omega
 have HV:Hid (∀Z,VDs (· < w.heap.size) Z l a->Calls prog 141 #[.slice a l.length c] Z fun e w'=>e = .returned (.bool true)/\Ext Z w'):=bA fun Z h=>(R7 l hl (· < w.heap.size) a c Z h).mono fun e w' ⟨q,h1,h2,h3⟩=>⟨by rw [h1,h2.2 hv],h3⟩
 have HN:Hid (∀Z,Calls prog 88 #[.slice none 0 0] Z (CloneS [] Z)):=bA fun Z=>VN [] Bd (fun _=>True) none 0 Z (bC rfl)
 have hz:(Di l).length=l.length:=by simp [Di]
 refine Af func97 ntmps97 rfl rfl ?_;refine cS (eA [_,_,_] ?_);intro b1 w2 U x6 p7 z8;revert X L;refine eE x6 ?_;intro X L;refine eK ?_;refine cC rfl (HV.out _ Ag) ?_;rintro _ bv ⟨⟨⟩,x9⟩;revert U X L;refine eY x9 ?_;intro bw U X L;refine eK ?_;refine eQ rfl (HN.out _) ?_;rintro _ bx ⟨am,⟨an,⟨⟨⟩,⟨ai,az⟩⟩⟩⟩;revert U X L;refine eY az ?_;intro bz U X L;refine C1 (xB [_,_,_]) (xA [_,_,_] ?_);intro ao b0 a0;refine eI [_,_,_] a0 ?_;intro ac F a1 b2 b3;revert ai U X L;refine eE a1 ?_;intro ai U X L;refine cT (Aj (cS (C1 Mv (C1 Pz (C1 Mv (cT ?_))))));refine Ar ?_;refine AJ (ι:=Nat) (fun j=>[(4,.pointer (some ⟨b1,0,none⟩)),(6,.pointer (some ⟨ao,0,none⟩)),(20,.slice a l.length c),(21,.int .i64 l.length),(22,.int .i64 j)])
  (fun j w'=> ∃ra rc,j<=l.length/\OwnQ Ln w' (fun b=>ac.heap.size<=b) ac.heap.size 130 (.slice ra ((Di l).take j).length rc) ((Di l).take j)/\Blk w' ao [.slice ra ((Di l).take j).length rc,.slice am 0 an,.slice none 0 0]/\Blk w' b1 [.slice none 0 0,.slice none 0 0,.slice none 0 0]/\VDs (· < w.heap.size) w' l a/\Ext w w'/\ac.heap.size<=w'.heap.size)
  (fun j=>l.length-j) 0 sB ⟨none,0,bI _,OwnQ.nil,F,U,L,X,bJ _⟩ ?_
 clear F U L X ai;rintro j w3 ⟨ra,rc,hj,f,F,U,L,X,b4⟩;have Y : ∀g',(cP ra ((Di l).take j).length rc).ownBlock=some g'->ac.heap.size<=g'/\g'<w3.heap.size:=fun g' h=>⟨f.ge h,f.lt h⟩
 have a2:((Di l).take j).length<=1000000:=by rw [cH];omega
 by_cases ap:j<l.length
 . have f:=f.ltR;obtain ⟨kb,ko,rfl,kS,hk⟩:=eW L Ab;have rx:=hk j _ (aY ap);have aq:=hv.2 _ (bD ap);have ar:0<=D9 l[j]/\D9 l[j]<=16:=by unfold D9;unfold K7 at aq;split<;>omega
   obtain ⟨N,hN⟩:=Int.eq_ofNat_of_zero_le ar.1;have HX:Hid (∀Z,Calls prog 142 #[l[j].val] Z fun e w'=>e = .returned (.int .i64 (N:Int))/\Ext Z w'):=bA fun Z=>by rw [<-hN];exact WL l[j] Z
   have ad:(Di l).take j++[cB N 0]=(Di l).take (j+1):=by
    rw [bE Ab];congr 2;simp only [Di,List.getElem_map,hN,Int.toNat_natCast]
   clear hk aq;have a6:N<=16:=by omega
   clear ar hN;generalize l[j]=x at *;obtain ⟨xn,xk,xl⟩:=x;replace rx:Row w3 ⟨kb,ko+j*3,none⟩ [str xn,.int .u8 xk,.int .i64 xl]:=rx;unfold VD.val at HX;dsimp only at HX;generalize (Di l).take j=ys at *;refine eK ?_;refine xA [_,_,_] ?_;intro b5 b6 a3;refine eI [_,_,_] a3 ?_;intro au O a4 b7 b8;revert U X L rx F f;refine eE a4 ?_;intro U X L rx F f;refine cT (AC (fun wz=>Ext au wz) 6 (.pure 0 (.pure 1 (.pure 2 (.fork 3 (.fork 4 (.fork 5 .tail .none) .none) .none)))) mixed Bl (Al (Aa (Aa (Al (Aa An))))) ?_);intro a5 ae _;have E:(fun wz=>Ext au wz) a5:=ae;simp only at E;have aj:=O;have a7:=U;have a8:=L;have a9:=rx;have ak:=F;have ay:=f;revert O U X L rx F f;refine eY ae ?_;intro ba O U X L rx F f;refine ⟨E,?_⟩;refine Tq rfl Pg (Tq rfl (Db ak) (Tq rfl (xL [_,_,_] (fun wz hz=>(Blk.ext aj hz))) ?_));refine tC rfl rfl (HX.out _) ?_;rintro _ bb ⟨⟨⟩,av⟩;revert E O U X L rx F f;refine eY av ?_;intro bc E O U X L rx F f;refine ⟨E,?_⟩;refine A1 rfl (Kd (sh:=Ms) (C:=0) (D:=0) (N:=N) (z:=0) Ac CM rfl rfl rfl rfl Bl rfl rfl Ab (fun _ _=>rfl)) rfl ?_ aFh A7;rintro _ bd ⟨be,⟨rfl,⟨V,⟨bf,⟨bg,af⟩⟩⟩⟩⟩;have bh:=af.size;revert E O U X L rx F f;refine eE af ?_;intro E O U X L rx F f;refine ⟨E,?_⟩;refine A1 rfl (xS [_]) rfl ?_ aFh A7;rintro _ bi ⟨bj,rfl,aa,bk⟩;have ab:=aa.blk;have aw:=aa.ext;have bl:=aa.pos;have bm:=aa.size;revert V E O U X L rx F f;refine eE aw ?_;intro V E O U X L rx F f;refine ⟨E,?_⟩;refine AF rfl (DP (R:=fun b=>ac.heap.size<=b) (sh:=Ln) (z:=cB N 0) Ac CM rfl rfl rfl rfl Bl rfl rfl rfl Ag (fun _ h=>by exact h.1) (eC Ag) ⟨_,_,by rw [List.length_replicate],ArrS.rowsJ Ag ⟨Ab,fun e=>by have:=Y _ e;omega⟩⟩ Ab Ab rfl ?_);rintro bn ax bo ag bp bq M;have br:=M.size;have ab:=dQ ab M (fun e=>by have:=Y _ e;omega);have V:=ArrS.fr V M (fun k hk=>by have:=Y _ hk;omega);have O:=dQ O M (fun e=>by have:=Y _ e;omega);have U:=dQ U M (fun e=>by have:=Y _ e;omega);have X:=eX X M (fun k hk=>by have:=Y _ hk;omega);have L:=fD L M (fun b hb hT=>by have:=Y _ hT;(try dsimp only at hb);omega);clear rx;have F:=dQ F M (fun e=>by have:=Y _ e;omega)
   clear f M;refine C1 Pg (eV [_] [_,_,_] F ?_);intro bs bt ah bu;have ag:=OwnQ.fr ag ah (fun k hk=>⟨fun h=>by (try dsimp only at hk h);omega,fun e=>by have:=OwnQ.ge Ag e;(try dsimp only at hk);omega⟩);revert ab V O U X L;refine eF ah ?_;intro ab V O U X L;refine Ah (Ae (Ai (Ad (C1 V7 (C1 Mv (Ah ?_))))));exact Aw (j+1) sB ⟨some ⟨_,0,none⟩,_,Ab,by rw [<-ad];assumption,by rw [<-ad];assumption,U,L,X,Ab⟩ Ab
 . obtain rfl:j=l.length:=by omega
   have et:(Di l).take l.length=Di l:=by rw [<-hz,bH]
   rw [et] at f F;clear Y a2;refine eK ?_;refine eS [_,_,_] U ?_;intro b9 ca al cb;revert L X;refine eF al ?_;intro L X;have f:=OwnQ.fr f al (fun k hk=>⟨fun h=>by (try dsimp only at hk h);omega,fun e=>by have:=OwnQ.ge Ag e;(try dsimp only at hk);omega⟩);have F:=F.fr al Ab;refine C1 Pa (cT (BD ?_));refine FW rfl Ac rfl rfl rfl Ag rfl rfl ?_;refine ⟨ra,rc,am,an,by rw [hz],?_,X⟩;exact f.ltR.ics (fun b h=>⟨Ab,Ab⟩) (fun b h1 h2=>⟨Ab,h2⟩)
section
variable {P:Program} {n:Nat} {l:Sl} {S:wD->Prop} {tab:Tab} {zt:Ey} {ty t e sz:Nat} {sE:Sk}
def Mu {x y z:Operand} {a b c z0 E z2:Value} (T:TabOk P tab) (Z:Cy P zt) (F:AD tab t=some (.array 3 e,sz)) (L:AD tab e=some (sE,1)) (M:CT zt t=some [z0,E,z2])
 (N:ev l x=some a) (O:ev l y=some b) (U:ev l z=some c) (ca:a.cells = #[a]) (V:b.cells = #[b]) (X:c.cells = #[c]):BA P n l S (.build t #[(0,x),(1,y),(2,z)]) ty (.agg #[a,b,c]):=by
 unfold BA;intro s w Y pos after g f _;have hu:P.underlying t=some (.array 3 e):=(T _ _ _ F).under;obtain ⟨i0,v0,k1,k2,k3⟩:=Fd Z M;obtain ⟨ie,j1,j2⟩:=(T _ _ _ L).info;have h:v0.cells = #[z0,E,z2]:=k3;have hb:P.built t [(0,a),(1,b),(2,c)]=some #[a,b,c]:=by
  unfold Program.built;simp only [k1,hu,k2,j1];simp [Instr.fill,j2,ca,V,X,h]
 have:=run_build w t #[(0,a),(1,b),(2,c)] _ hb;simp only [execOp,bL];rw [show (#[(0,x),(1,y),(2,z)]:Array (Nat×Operand)).map (fun p=>match p with|(i,x)=>(i,s.eval x)) = #[(0,a),(1,b),(2,c)] by simp [f.ev N,f.ev O,f.ev U],this];rfl
def Mw {k:IntKind} {i:Int} {m:Nat} {x y:Operand} {vs:lV} {v:Value} (T:TabOk P tab) (E:AD tab t=some (.array m e,sz)) (f:AD tab e=some (sE,1)) (F:sE.agg=false) (L:ev l x=some (.agg vs.toArray)) (M:ev l y=some (.int k i)) (N:0<=i) (h1:i<m) (O:vs[i.toNat]? = some v) :
 BA P n l S (.index t x y) ty v:=by
 unfold BA;intro s w U pos after g h _;have V:P.underlying t=some (.array m e):=(T _ _ _ E).under;have X:(Instr.index t (.agg vs.toArray) (.int k i)).run P w = .ok v w:=by
  simp only [Instr.index,asIntOf,bL,bW,bG,AK V];simp only [N,h1,and_self,if_true,bL,C2 (T _ _ _ f),bG,part,Eo (T _ _ _ f),F];simp [O]
 simp [execOp,h.ev L,h.ev M,X]
end
def ID:Shape (Int×Int) where
 sz:=2
 rep:=fun _ _ p cs=>cs=[.int .i64 p.1,.int .i64 p.2]
 len:=fun h=>by rw [h];rfl
 one:=fun h=>by rw [h];rfl
 mono:=fun h _ _=>h
 lt:=fun h=>h
def ZJ (w:wD) (b o:Nat) (p:Int×Int):Prop:=Row w ⟨b,o,none⟩ [.int .i64 p.1,.int .i64 p.2]
def Bds (w:wD) (l:List (Int×Int)) (a:oA):Prop:=Arr (fun _=>True) 2 ZJ w l a
def Bds.ext {w w':wD} {l:List (Int×Int)} {a:oA} (h:Bds w l a) (x:Ext w w'):Bds w' l a:=h.mono aFh (fun _ _ _ _ _ h=>dZ h x)
instance {w w':wD} {l:List (Int×Int)} {a:oA}:LfE w w' (Bds w l a) (Bds w' l a):=⟨fun x h=>Bk.Bds.ext h x⟩
def OwnQ.bds {w:wD} {R:nP} {B e:Nat} {a:oA} {len cap:Nat} {xs:List (Int×Int)} (h:OwnQ ID w R B e (.slice a len cap) xs):Bds w xs a:=by
 by_cases E:xs=[]
 . exact bC E
 . obtain ⟨g,F,L,O,U,f⟩:=h.rows E;simp only [bZ] at L;obtain ⟨rfl,-,-⟩:=L;refine bF ⟨g,0,rfl,trivial,fun i x M=>?_⟩;obtain ⟨cs,N,rfl⟩:=f i x M;simpa [ID,ZJ] using N
def LensR (l:List (Int×Int)) (w:wD):Ending->wD->Prop:=fun e w'=> ∃a c,e = .returned (.tuple #[.slice a l.length c,.bool true])/\Bds w' l a/\Ext w w'
def LensR.ret {l:List (Int×Int)} {w:wD} {e:Ending} {w':wD} (h:LensR l w e w') : ∃v,e = .returned v:=by
 obtain ⟨_,_,h,-⟩:=h;exact ⟨_,h⟩
def T1 (vs:List VD) (hl:vs.length<=1000000) (b:BoxV) (V : ¬(b.ok/\EJ vs)) (S:nP) (a:oA) (c:Nat) (w:wD) (L:VDs S w vs a) :
 Calls prog 53 #[.slice a vs.length c,.agg #[.int .i64 b.v,.int .i64 b.l,.int .i64 b.i]] w fun e w'=>e = .returned (.tuple #[.slice none 0 0,.bool false])/\Ext w w':=by
 have X:=dI w;obtain ⟨f,E,F⟩:=b;simp only [BoxV.ok] at V;have HN:Hid (EJ vs \/ ∀O,VDs S O vs a->Calls prog 97 #[.slice a vs.length c,.slice none 0 0] O fun e w'=>e = .returned (.tuple #[.agg #[.slice none 0 0,.slice none 0 0,.slice none 0 0],.int .i64 3])/\Ext O w'):=
  bA (by by_cases h:EJ vs;exact bC h;exact bF fun O h1=>Xy vs hl h S a c O h1)
 have N:(0<=f/\f<=1000)->(0<=E/\E<=1000)->(0<=F/\F<=1000) -> ¬EJ vs:=fun h1 h2 h3 h=>V ⟨⟨h1,h2,h3⟩,h⟩
 clear V;refine Af func53 ntmps53 rfl rfl ?_;refine cS (F1 [_,_,_] rfl rfl rfl ?_);intro b1 w2 U;have M:=U.blk;dsimp only at M;have x5:=U.ext;have p6:=U.pos;have z7:=U.size;revert L X;refine eE x5 ?_;intro L X;refine eK ?_;refine C1 (Mu Ac CM rfl rfl rfl rfl rfl rfl rfl rfl rfl) (C1 Mv (cT ?_));refine Ar ?_;refine AJ (ι:=Nat) (fun j=>[(0,.slice a vs.length c),(3,.pointer (some ⟨b1,0,none⟩)),(4,.slice none 0 0),(5,.bool false),(19,.agg #[.int .i64 f,.int .i64 E,.int .i64 F]),(20,.int .i64 j)])
  (fun j w'=>j<=3/\(0<j->0<=f/\f<=1000)/\(1<j->0<=E/\E<=1000)/\(2<j->0<=F/\F<=1000)/\Blk w' b1 [.int .i64 f,.int .i64 E,.int .i64 F]/\VDs S w' vs a/\Ext w w') (fun j=>3-j) 0 sB ⟨Ab,Ab,Ab,Ab,M,L,X⟩ ?_
 clear M L X;rintro j O ⟨hj,o1,o2,o3,M,L,X⟩;by_cases af:j<3
 . obtain ⟨x,hx,q1,q2,q3⟩ : ∃x,[Value.int .i64 f,.int .i64 E,.int .i64 F][((j:Int)).toNat]? = some (.int .i64 x)/\(j=0->x=f)/\(j=1->x=E)/\(j=2->x=F):=by
    rw [Int.toNat_natCast];rcases (show j=0\/j=1\/j=2 by omega) with rfl|rfl|rfl
    . exact ⟨f,rfl,fun _=>rfl,fun h=>by omega,fun h=>by omega⟩
    . exact ⟨E,rfl,fun h=>by omega,fun _=>rfl,fun h=>by omega⟩
    . exact ⟨F,rfl,fun h=>by omega,fun h=>by omega,fun _=>rfl⟩
   focus
    refine eK ?_;refine C1 (Mw (vs:=[.int .i64 f,.int .i64 E,.int .i64 F]) Ac rfl rfl rfl rfl rfl Ab Ab hx) ?_;refine eK ?_;refine Cm rfl rfl rfl (fun Y=>?_) (fun Y=>?_);refine eK ?_;refine xT ?_;rotate_left;refine eK ?_;refine AH rfl (fun Z=>?_) (fun Z=>?_);refine eK ?_;refine xT ?_;rotate_left;refine As (Ae (Ai (Ad (C1 V7 (C1 Mv (Ah ?_))))));rotate_left
   . exact ⟨rfl,X⟩
   . exact ⟨rfl,X⟩
   . exact Aw (j+1) sB ⟨Ab,fun _=>by omega,fun _=>by omega,fun _=>by omega,Ag,Ag,X⟩ Ab
 . obtain rfl:j=3:=by omega
   refine eK ?_;refine cC rfl ((HN.out.resolve_left (N Ab Ab Ab)) _ Ag) ?_;rintro _ ag ⟨⟨⟩,aa⟩;revert M L X;refine eY aa ?_;intro ah M L X;refine eK ?_;refine xA [_,_,_] ?_;intro ai aj ab;refine eI [_,_,_] ab ?_;intro ak al ac ad ae;revert M L X;refine eE ac ?_;intro M L X;refine eK ?_;refine xT ?_;exact ⟨rfl,X⟩
def T2 (vs:List VD) (b:BoxV) (Z:b.ok) (hv:EJ vs) (S:nP) (a:oA) (c:Nat) (w:wD) (L:VDs S w vs a) :
 Calls prog 53 #[.slice a vs.length c,.agg #[.int .i64 b.v,.int .i64 b.l,.int .i64 b.i]] w (LensR (FM vs b) w):=by
 have X:=dI w;replace L:VDs (· < w.heap.size) w vs a:=L.lt2.wide fun _ h=>h.2
 have hl:vs.length<=1000000:=by have:=hv.1;omega
 have HN:=bA (fun w1 (h:VDs (· < w.heap.size) w1 vs a)=>Xz vs hv (· < w.heap.size) a c w1 h);have HL:Hid (∀j (hj:j<vs.length),((D9 vs[j]).toNat:Int)=D9 vs[j]/\K8 b vs[j]=if vs[j].kind=3 then (0,b.l) else (D9 vs[j],D9 vs[j])):=bA fun j hj=>⟨by
  have ar:=hv.2 _ (bD hj);unfold K7 at ar;unfold D9;split<;>omega,rfl⟩
 have hz:(Di vs).length=vs.length:=by simp [Di]
 unfold FM;have aa : ∀j (hj:j<vs.length),(vs.map (K8 b)).take j++[K8 b vs[j]]=(vs.map (K8 b)).take (j+1):=fun j hj=>by
  rw [bE (by simpa using hj),List.getElem_map]
 have au:(vs.map (K8 b)).length=vs.length:=by simp
 obtain ⟨⟨o1,o2⟩,⟨o3,o4⟩,o5,o6⟩:=Z;obtain ⟨bv,bl,bi⟩:=b;simp only at o1 o2 o3 o4 o5 o6 HL;generalize bn:vs.map (K8 ⟨bv,bl,bi⟩)=ms at *;have HV:=bA hv;clear hv;refine Af func53 ntmps53 rfl rfl ?_;refine cS (F1 [_,_,_] rfl rfl rfl ?_);intro b1 w2 n3;have M:=n3.blk;dsimp only at M;have x5:=n3.ext;have p6:=n3.pos;have z7:=n3.size;revert X L;refine eE x5 ?_;intro X L;refine eK ?_;refine C1 (Mu Ac CM rfl rfl rfl rfl rfl rfl rfl rfl rfl) (C1 Mv (cT ?_));refine Ar ?_;refine AJ (ι:=Nat) (fun j=>[(0,.slice a vs.length c),(3,.pointer (some ⟨b1,0,none⟩)),(4,.slice none 0 0),(5,.bool false),(19,.agg #[.int .i64 bv,.int .i64 bl,.int .i64 bi]),(20,.int .i64 j)])
  (fun j w'=>j<=3/\Blk w' b1 [.int .i64 bv,.int .i64 bl,.int .i64 bi]/\VDs (· < w.heap.size) w' vs a/\Ext w w') (fun j=>3-j) 0 sB ⟨Ab,M,L,X⟩ ?_
 clear M L X;rintro j w1 ⟨hj,M,L,X⟩;by_cases bo:j<3
 . obtain ⟨x,hx,q1,q2⟩ : ∃x,[Value.int .i64 bv,.int .i64 bl,.int .i64 bi][((j:Int)).toNat]? = some (.int .i64 x)/\0<=x/\x<=1000:=by
    rw [Int.toNat_natCast];rcases (show j=0\/j=1\/j=2 by omega) with rfl|rfl|rfl
    . exact ⟨bv,rfl,o1,o2⟩
    . exact ⟨bl,rfl,o3,o4⟩
    . exact ⟨bi,rfl,o5,o6⟩
   refine eK ?_;refine C1 (Mw (vs:=[.int .i64 bv,.int .i64 bl,.int .i64 bi]) Ac rfl rfl rfl rfl rfl Ab Ab hx) (C1 Pa (cN (C1 Mv (C1 V3 (C1 Mv (Kz (C1 Mv (Kz (C1 V5 (C1 OQ (cT ?_)))))))))));refine C9 (As (Ae (Ai (Ad (C1 V7 (C1 Mv (Ah ?_)))))));exact Aw (j+1) sB ⟨Ab,Ag,Ag,X⟩ Ab
 . obtain rfl:j=3:=by omega
   have bp:=M.lt;refine eK ?_;refine eQ rfl (HN.out _ Ag) ?_;rintro _ bq ⟨ah,⟨av,⟨a1,⟨a2,⟨⟨⟩,⟨ac,aw⟩⟩⟩⟩⟩⟩;revert M L X;refine eY aw ?_;intro br M L X;refine eK ?_;refine xA [_,_,_] ?_;intro bs a3 ai;refine eI [_,_,_] ai ?_;intro Y af aj a4 a5;revert ac M L X;refine eE aj ?_;intro ac M L X;refine C1 Pa (cT (Aj (cS (C1 Mv (C1 V2 (cT (Hj (As (Ai (cS (C1 Pa ?_)))))))))));refine cT (Aj (cS (C1 Pg (C1 (Pl af) (C1 Pz (C1 Mv (cT ?_)))))));refine Ar ?_;refine AJ (ι:=Nat×oA×Nat) (fun x=>[(0,.slice a vs.length c),(3,.pointer (some ⟨b1,0,none⟩)),(10,.slice x.2.1 (ms.take x.1).length x.2.2),(38,.slice ah vs.length av),(39,.int .i64 vs.length),(40,.int .i64 x.1)])
    (fun x w'=>x.1<=vs.length/\OwnQ ID w' (fun _=>False) Y.heap.size 109 (.slice x.2.1 (ms.take x.1).length x.2.2) (ms.take x.1)/\Blk w' b1 [.int .i64 bv,.int .i64 bl,.int .i64 bi]/\ICs (· < Y.heap.size) w' (Di vs) ah/\VDs (· < w.heap.size) w' vs a/\Ext w w'/\Y.heap.size<=w'.heap.size)
    (fun x=>vs.length-x.1) (0,none,0) sB ⟨bI _,OwnQ.nil,M,ac.wide (fun b h=>by omega),L,X,bJ _⟩ ?_
   clear M ac L X af;rintro ⟨j,ra,rc⟩ w3 ⟨ax,f,M,E,L,X,bt⟩;simp only at ax f;have F : ∀g',(cP ra (ms.take j).length rc).ownBlock=some g'->Y.heap.size<=g'/\g'<w3.heap.size:=fun g' h=>⟨f.ge h,f.lt h⟩
   have bu:(ms.take j).length<=1000000:=by rw [cH];omega
   by_cases ab:j<vs.length
   . obtain ⟨kb,ko,rfl,kS,hk⟩:=eW L Ab;have rx:=hk j _ (aY ab);obtain ⟨db,bw,rfl,dS,hd⟩:=E.get (by intro e;rw [e] at hz;simp at hz;omega);obtain ⟨xa,xc,ry,-⟩:=hd j _ (aY (show j<(Di vs).length by omega));obtain ⟨f1,f2⟩:=HL.out j ab;have ag:((Di vs)[j]'(by omega)).length=(D9 vs[j]).toNat:=by simp [Di]
     rw [ag] at ry;have hn:=aa j ab;rw [f2] at hn;clear hk hd ag f2 HL aa;rw [<-f1] at hn;clear f1;generalize (D9 vs[j]).toNat=N at *;generalize vs[j]=x at *;obtain ⟨xn,xk,xl⟩:=x;replace rx:Row w3 ⟨kb,ko+j*3,none⟩ [str xn,.int .u8 xk,.int .i64 xl]:=rx;simp only at hn;by_cases ak:xk=3
     . rw [AU ak] at hn;generalize ms.take j=ys at *;refine eK ?_;refine C1 (Pw rx) ?_;refine eK ?_;refine C1 (xB [_,_]) ?_;refine Au (xS [_,_]) rfl ?_ aFh;rintro _ bx ⟨bz,rfl,ad,b0⟩;have al:=ad.blk;have ay:=ad.ext;have b2:=ad.pos;have b3:=ad.size;revert M X L E ry rx f;refine eE ay ?_;intro M X L E ry rx f;refine DP (R:=fun _=>False) (sh:=ID) (z:=(0,bl)) Ac CM rfl rfl rfl rfl Bl rfl rfl rfl Ag (fun _ h=>by exact h) (eC Ag) rfl Ab Ab rfl ?_;rintro b4 am a6 a7 a8 a9 O;have ba:=O.size;have al:=dQ al O (fun e=>by have:=F _ e;omega);have M:=dQ M O (fun e=>by have:=F _ e;omega);have X:=eX X O (fun k hk=>by have:=F _ hk;omega);have L:=fD L O (fun b Z hT=>by have:=F _ hT;(try dsimp only at Z);omega);have E:=ICs.fr E O (fun b Z hT=>by have:=F _ hT;(try dsimp only at Z);omega);clear ry rx f O;refine C1 Pa (Ah (Ae (Ai (Ad (C1 V7 (C1 Mv (Ah ?_)))))));exact Aw (j+1,some ⟨_,0,none⟩,_) (by dsimp only;rw [<-hn];(refine Ak rfl ?_;refine Ak rfl ?_;refine Ak rfl ?_;refine Ak rfl ?_;refine Ak rfl ?_;refine Ak rfl ?_;exact AY)) ⟨by (try dsimp only);omega,by dsimp only;rw [<-hn];assumption,M,E,L,X,Ab⟩ (by (try dsimp only);omega)
     . rw [AE ak] at hn;generalize ms.take j=ys at *;refine eK ?_;refine C1 (Pw rx) ?_;refine eK ?_;refine C1 (xB [_,_]) ?_;refine Au (xS [_,_]) rfl ?_ aFh;rintro _ b5 ⟨b6,rfl,nd3,b7⟩;have an:=nd3.blk;have az:=nd3.ext;have b8:=nd3.pos;have b9:=nd3.size;revert M X L E ry rx f;refine eE az ?_;intro M X L E ry rx f;refine DP (R:=fun _=>False) (sh:=ID) (z:=((N:Int),(N:Int))) Ac CM rfl rfl rfl rfl Bl rfl rfl rfl Ag (fun _ h=>by exact h) (eC Ag) rfl Ab Ab rfl ?_;rintro ca ao bb bc bd be U;have bf:=U.size;have an:=dQ an U (fun e=>by have:=F _ e;omega);have M:=dQ M U (fun e=>by have:=F _ e;omega);have X:=eX X U (fun k hk=>by have:=F _ hk;omega);have L:=fD L U (fun b Z hT=>by have:=F _ hT;(try dsimp only at Z);omega);have E:=ICs.fr E U (fun b Z hT=>by have:=F _ hT;(try dsimp only at Z);omega);clear ry rx f U;refine C1 Pa (Ah (Ae (Ai (Ad (C1 V7 (C1 Mv (Ah ?_)))))));exact Aw (j+1,some ⟨_,0,none⟩,_) (by dsimp only;rw [<-hn];(refine Ak rfl ?_;refine Ak rfl ?_;refine Ak rfl ?_;refine Ak rfl ?_;refine Ak rfl ?_;refine Ak rfl ?_;exact AY)) ⟨by (try dsimp only);omega,by dsimp only;rw [<-hn];assumption,M,E,L,X,Ab⟩ (by (try dsimp only);omega)
   . obtain rfl:j=vs.length:=by omega
     rw [show ms.take vs.length=ms by rw [<-au,bH]] at *;refine eK ?_;refine C1 (xB [_,_]) ?_;refine Au (xS [_,_]) rfl ?_ aFh;rintro _ cb ⟨cc,rfl,ae,cd⟩;have ap:=ae.blk;have a0:=ae.ext;have ce:=ae.pos;have cf:=ae.size;revert M E L X f;refine eE a0 ?_;intro M E L X f;refine DP (R:=fun _=>False) (sh:=ID) (z:=(0,bi)) Ac CM rfl rfl rfl rfl Bl rfl rfl rfl Ag (fun _ h=>by exact h) (eC Ag) rfl Ab Ab rfl ?_;rintro cg aq bg bh bj bk V;have bm:=V.size;have ap:=dQ ap V (fun e=>by have:=F _ e;omega);have M:=dQ M V (fun e=>by have:=F _ e;omega);have E:=ICs.fr E V (fun b Z hT=>by have:=F _ hT;(try dsimp only at Z);omega);have L:=fD L V (fun b Z hT=>by have:=F _ hT;(try dsimp only at Z);omega);have X:=eX X V (fun k hk=>by have:=F _ hk;omega);clear f V;refine eK ?_;refine xT ?_;exact ⟨_,_,rfl,OwnQ.bds Ag,X⟩
def Qv (l:List (Int×Int)) (y:Int) (j:Nat) (h:j<l.length):D3 (l.take (j+1)) y=F5 (D3 (l.take j) y) (LP l[j] y):=by
 unfold D3;rw [bE h,List.foldl_append];rfl
def SD (vs:List VD) (hl:vs.length<=1000000) (b:BoxV) (S:nP) (a:oA) (c:Nat) (w:wD) (O:VDs S w vs a) :
 Calls prog 27 #[.slice a vs.length c,.agg #[.int .i64 b.v,.int .i64 b.l,.int .i64 b.i]] w fun e w'=>e = .returned (.tuple #[.int .i64 (FN vs b).1,.int .i64 (FN vs b).2])/\Ext w w':=by
 have X:=dI w;by_cases N:b.ok/\EJ vs
 . have HL:=bA (fun V h=>T2 vs b N.1 N.2 S a c V h);have hb:=WM N.1 N.2;have ak:=Tm vs b;have hy:1<=2*b.v+1/\2*b.v+1<=2001:=by have:=N.1.1;omega
   have Y : ∀j,1<=D3 ((FM vs b).take j) (2*b.v+1)/\D3 ((FM vs b).take j) (2*b.v+1)<=1099511627777:=fun j=>
    Nh _ 1 _ hy.1 (fun p hp=>by have:=hb p (List.mem_of_mem_take hp);omega) Ab Ab
   have HS:=bA (fun j h=>Qv (FM vs b) (2*b.v+1) j h);unfold FN;rw [AU N];clear N;obtain ⟨E,bl,bi⟩:=b;simp only at hy Y HS HL ⊢;have hE:D3 (FM vs ⟨E,bl,bi⟩) (2*E+1)=D3 ((FM vs ⟨E,bl,bi⟩).take (FM vs ⟨E,bl,bi⟩).length) (2*E+1):=by rw [bH]
   generalize FM vs ⟨E,bl,bi⟩=F at *;have HB:=bA hb;have H1:=bA Y;clear hb Y;refine Af func27 ntmps27 rfl rfl ?_;refine cS (eB [_,_,_] ?_);intro b1 w2 L x5 p6 z7;revert O X;refine eE x5 ?_;intro O X;refine eK ?_;refine eQ rfl (HL.out _ Ag) ?_;rintro _ aq ⟨a8,⟨c9,⟨⟨⟩,⟨f,ad⟩⟩⟩⟩;revert L O X;refine eY ad ?_;intro ar L O X;refine C1 Mv (C1 Px (C1 Px (C1 Pa (C1 Pa (cT (Aj (cS (C1 Mv (C1 Pt (cT (Da rfl ?_)))))))))));refine As (Ai (cS (C1 Pa (cT (Aj (cS (C1 Mv (C1 Pz (C1 Mv (cT ?_))))))))));have hm:IntKind.wrap .i64 (2*E)=2*E:=bT _ Ab;have au:=L.lt;refine Ar ?_;refine AJ (ι:=Nat) (fun j=>[(3,.pointer (some ⟨b1,0,none⟩)),(8,.int .i64 (D3 (F.take j) (2*E+1))),(19,.slice a8 F.length c9),(20,.int .i64 F.length),(21,.int .i64 j)])
    (fun j w'=>j<=F.length/\Blk w' b1 [.int .i64 E,.int .i64 bl,.int .i64 bi]/\Bds w' F a8/\Ext w w') (fun j=>F.length-j) 0 sB ⟨bI _,L,f,X⟩ ?_
   clear L f X O;rintro j w3 ⟨hj,L,f,X⟩;have h1:=H1.out j;by_cases Z:j<F.length
   . obtain ⟨kb,ko,rfl,-,hk⟩:=eW f Ab;have U:=hk j _ (aY Z);have hp:=HB.out _ (bD Z);have hq:=HS.out j Z;have ae:=UR hy.1 hp.1 hp.2.1;have HC:=bA (fun V=>Qu F[j] (2*E+1) Ab Ab Ab V);have HP:=bA (fun V=>NC (D3 (F.take j) (2*E+1)) (LP F[j] (2*E+1)) h1 ae V);clear hk;generalize LP F[j] (2*E+1)=q at *;generalize D3 (F.take j) (2*E+1)=s at *;generalize F[j]=p at *;obtain ⟨p1,p2⟩:=p;replace U:Row w3 ⟨kb,ko+j*2,none⟩ [.int .i64 p1,.int .i64 p2]:=U;simp only at hp HC;refine eK ?_;refine xA [_,_] ?_;intro av aw af;refine eI [_,_] af ?_;intro ax M ag ay az;revert L X f U;refine eE ag ?_;intro L X f U;refine eK ?_;refine Bm [_,_] Ac rfl rfl rfl M rfl rfl rfl ?_;refine eK ?_;refine C1 (DU rfl rfl hm) (C1 V7 (cC rfl (HC.out _) ?_));rintro _ al ⟨⟨⟩,ah⟩;revert M L X f U;refine eY ah ?_;intro am M L X f U;refine cC rfl (HP.out _) ?_;rintro _ an ⟨⟨⟩,ab⟩;revert M L X f U;refine eY ab ?_;intro ao M L X f U;refine C1 Pa (Ah (Ae (Ai (Ad (C1 V7 (C1 Mv (Ah ?_)))))));exact Aw (j+1) (by rw [hq];(refine Ak rfl ?_;refine Ak rfl ?_;refine Ak rfl ?_;refine Ak rfl ?_;refine Ak rfl ?_;exact AY)) ⟨Ab,Ag,Ag,X⟩ Ab
   . obtain rfl:j=F.length:=by omega
     rw [<-hE] at *;generalize D3 F (2*E+1)=s at *;by_cases ac:1099511627776<s
     . rw [AU ac];refine eK ?_;refine xT ?_;exact ⟨rfl,X⟩
     . rw [AE ac];refine eK ?_;refine xT ?_;exact ⟨rfl,X⟩
 . have HL:=bA (fun V h=>T1 vs hl b N S a c V h);rw [show FN vs b=(0,1) by unfold FN;rw [AE N]];clear N;obtain ⟨E,bl,bi⟩:=b;refine Af func27 ntmps27 rfl rfl ?_;refine cS (F1 [_,_,_] rfl rfl rfl ?_);intro a0 a1 nd3;have aa:=nd3.blk;dsimp only at aa;have ai:=nd3.ext;have a2:=nd3.pos;have a3:=nd3.size;revert O X;refine eE ai ?_;intro O X;refine eK ?_;refine cC rfl (HL.out _ Ag) ?_;rintro _ a4 ⟨⟨⟩,aj⟩;revert aa O X;refine eY aj ?_;intro ap aa O X;refine eK ?_;refine xT ?_;exact ⟨rfl,X⟩
structure EX.wf (e:EX):Prop where
 name:e.name.length<=9223372036854775807
 g:e.g.wf
 few:e.g.vars.length<=1000000
structure EX.sits (S:nP) (w:wD) (e:EX) (va pa ma:oA) (vc:Nat):Prop where
 g:e.g.sits S w va pa ma
 p:PDsC S w e.g.procs pa
 room:e.g.vars.length<=vc
def EX.sits.ext {S:nP} {w w':wD} {e:EX} {f E F:oA} {L:Nat} (h:e.sits S w f E F L) (x:Ext w w'):e.sits S w' f E F L:=⟨h.g.ext x,h.p.ext x,h.room⟩
instance {S:nP} {w w':wD} {e:EX} {f E F:oA} {L:Nat}:LfE w w' (e.sits S w f E F L) (e.sits S w' f E F L):=⟨fun x h=>Bk.EX.sits.ext h x⟩
def EX.sits.fr {S T:nP} {w w':wD} {e:EX} {f E F:oA} {L:Nat} (h:e.sits S w f E F L) (x:Fr T w w') (M : ∀b,S b -> ¬T b):e.sits S w' f E F L:=⟨h.g.fr x M,h.p.fr x M,h.room⟩
instance {S T:nP} {w w':wD} {e:EX} {f E F:oA} {L:Nat}:LfF T w w' (e.sits S w f E F L) (∀b,S b -> ¬T b) (e.sits S w' f E F L):=⟨fun x s h=>Bk.EX.sits.fr h x s⟩
def EX.sits.ltA {S:nP} {w:wD} {e:EX} {f E F:oA} {L:Nat} (h:e.sits S w f E F L):e.sits (· < w.heap.size) w f E F L:=⟨h.g.ltA,h.p.ltA,h.room⟩
def SE {g:PG} (E:g.wf) (S:nP) (F:oA) (L:Nat) (f:oA) (U:Nat) (M:oA) (V:Nat) (w:wD) (X:g.sits S w F f M) (N:PDsC S w g.procs f) (O:g.vars.length<=L) :
 Calls prog 25 #[.agg (g.cells F L f U M V).toArray] w fun e w'=>e = .returned (.bool (decide g.acc))/\Ext w w':=
 (Zv g E S F L f U M V w X N O).mono fun e w' ⟨q,h1,h2,h3⟩=>⟨by rw [h1];congr 2;cases q;exact (decide_eq_false (fun h=>by cases h2.2 h)).symm;exact (decide_eq_true (h2.1 rfl)).symm,h3⟩
def IE (e:EX) (hw:e.wf) (S:nP) (va:oA) (vc:Nat) (pa:oA) (pc:Nat) (ma:oA) (mc:Nat) (w:wD) (hs:e.sits S w va pa ma vc) :
 Calls prog 12 #[.agg (e.cells va vc pa pc ma mc).toArray] w fun r w'=>r = .returned (.bool (decide e.valid))/\Ext w w':=by
 have X:=dI w;obtain ⟨aa,U,Y⟩:=hw;obtain ⟨L,M,ab⟩:=hs.ltA;clear hs;have HN:=bA (fun Z=>G0 e.name Z aa);have HC:=bA (fun Z h1 V=>SE U (· < w.heap.size) va vc pa pc ma mc Z h1 V ab);have HE:=bA (fun Z h=>SD e.g.vars Y e.box (· < w.heap.size) va vc Z h);by_cases h1:e.num
 . unfold eP EX.valid;unfold EX.num at h1 ⊢;obtain ⟨en,ep,ef,⟨bv,bl,bi⟩,g⟩:=e;simp only at aa U Y L M ab HN HC HE h1 ⊢;obtain ⟨o1,⟨o2,o3⟩,o4,o5⟩:=h1;rw [o1] at HN;simp only [o1,o2,o3,o4,o5,true_and,and_self];have f:=L.vars;refine Af func12 ntmps12 rfl rfl ?_;refine cS (eB [_,_,_,_,_,_,_,_,_,_,_,_] ?_);intro b1 w2 N x5 p6 z7;revert X L M f;refine eE x5 ?_;intro X L M f;refine eK ?_;refine cC rfl (HN.out _) ?_;rintro _ w9 ⟨⟨⟩,x8⟩;revert N X L M f;refine eY x8 ?_;intro bc N X L M f;refine C1 Pt (C1 Mv (A2 rfl rfl rfl (rfl) (C1 Pf (A2 rfl rfl rfl (rfl) (C1 (Pl N) (A2 rfl rfl rfl (rfl) (C1 V3 (C1 (By rfl rfl rfl) (C1 Mv (Kz (C1 Pf ?_)))))))))));refine Kz (C1 (Pl N) (Kz (C1 V5 (C1 OQ (C1 Mv (Kz (C1 Pf (Kz (C1 (Pl N) (Kz (C1 V3 ?_)))))))))));refine C1 OQ (C1 Mv (Kz (C1 Pf (Kz (C1 (Pl N) (Kz (C1 V5 (C1 OQ (cT (C9 (As ?_)))))))))));refine Ai (Aj ?_);by_cases V:g.acc
   . have HI:=bA (fun Z h=>Id U V.1 (· < w.heap.size) va vc pa pc ma mc Z h);rw [<-PG.pinv_eq] at HI;have HD:=bA (fun va vc pa pc ma mc Z S h1 ak h3=>SE (PG.pinv_wf U V.1) S va vc pa pc ma mc Z h1 ak h3);rw [decide_eq_true V] at HC;simp only [V,true_and];clear V U;refine eK ?_;refine cC rfl (HC.out _ Ag Ag) ?_;rintro _ bd ⟨⟨⟩,al⟩;revert N X L M f;refine eY al ?_;intro be N X L M f;refine eK ?_;refine Au (Bb Bl rfl (HI.out _ Ag) (fun _ _ ⟨_,_,_,_,_,_,h⟩=>⟨_,h.1⟩)) rfl ?_ aFh;rintro _ aw ⟨ax,⟨ay,⟨az,⟨a0,⟨a1,⟨a2,⟨⟨⟩,⟨E,⟨F,⟨a3,ac⟩⟩⟩⟩⟩⟩⟩⟩⟩⟩;revert N X L M f;refine eY ac ?_;intro a4 N X L M f;refine eK ?_;refine xA [_,_,_,_,_,_] ?_;intro a5 a6 ad;refine eI [_,_,_,_,_,_] ad ?_;intro a7 O ae a8 a9;revert E F N X L M f;refine eE ae ?_;intro E F N X L M f;refine C1 Pa (cT (Aj ?_));by_cases h3:g.pinv.acc
     . rw [decide_eq_true h3] at HD;simp only [h3,true_and];generalize g.pinv=u at *;generalize FN g.vars ⟨bv,bl,bi⟩=r at *;obtain ⟨n,k⟩:=r;simp only at HE ⊢;refine eK ?_;refine cC rfl (HD.out _ _ _ _ _ _ _ _ Ag Ag Ag) ?_;rintro _ bf ⟨⟨⟩,am⟩;revert N X L M f O E F;refine eY am ?_;intro bg N X L M f O E F;refine eK ?_;refine cC rfl (HE.out _ Ag) ?_;rintro _ bh ⟨⟨⟩,an⟩;revert N X L M f O E F;refine eY an ?_;intro bj N X L M f O E F;refine C1 Mv (C1 Px (C1 Px (C1 Pa (C1 Pa (cT ?_)))));by_cases hk:k=0
       . subst hk;simp only [true_and];refine eK ?_;refine xR ?_;exact ⟨rfl,X⟩
       . simp only [hk,false_and,decide_false];refine eK ?_;refine xR ?_;exact ⟨rfl,X⟩
     . rw [decide_eq_false h3] at HD;simp only [h3,false_and,decide_false];generalize g.pinv=u at *;refine eK ?_;refine cC rfl (HD.out _ _ _ _ _ _ _ _ Ag Ag Ag) ?_;rintro _ bk ⟨⟨⟩,ao⟩;revert N X L M f O E F;refine eY ao ?_;intro bm N X L M f O E F;refine eK ?_;refine xR ?_;exact ⟨rfl,X⟩
   . rw [decide_eq_false V] at HC;simp only [V,false_and,decide_false];clear V U;refine eK ?_;refine cC rfl (HC.out _ Ag Ag) ?_;rintro _ bn ⟨⟨⟩,ap⟩;revert N X L M f;refine eY ap ?_;intro bo N X L M f;refine eK ?_;refine xR ?_;exact ⟨rfl,X⟩
 . rw [decide_eq_false (fun h=>h1 h.1)];unfold eP;unfold EX.num at h1;obtain ⟨en,ep,ef,⟨bv,bl,bi⟩,g⟩:=e;simp only at aa U Y L M ab HN HC HE h1 ⊢;clear HC HE L M U;cases o1:A9 en
   . rw [o1] at HN;refine Af func12 ntmps12 rfl rfl ?_;refine cS (eB [_,_,_,_,_,_,_,_,_,_,_,_] ?_);intro bp bq af aq br bs;have X:=X.ext aq;refine eK ?_;refine cC rfl (HN.out _) ?_;rintro _ bt ⟨⟨⟩,ar⟩;revert af X;refine eY ar ?_;intro ba af X;refine eK ?_;refine xR ?_;exact ⟨rfl,X⟩
   . rw [o1] at HN;have V : ¬((1<=ep/\ep<=1000)/\0<=ef/\ef<=1000000):=fun h=>h1 ⟨o1,h⟩
     refine Af func12 ntmps12 rfl rfl ?_
     focus
      refine cS (eB [_,_,_,_,_,_,_,_,_,_,_,_] ?_);intro bu bw ag au bx bz;have X:=X.ext au;refine eK ?_;refine cC rfl (HN.out _) ?_;rintro _ b0 ⟨⟨⟩,av⟩;revert ag X;refine eY av ?_;intro bb ag X;refine eK ?_;refine Cm rfl rfl rfl (fun ah=>?_) (fun ah=>?_);refine eK ?_;refine xR ?_;rotate_left;refine eK ?_;refine Cm rfl rfl rfl (fun ai=>?_) (fun ai=>?_);refine eK ?_;refine xR ?_;rotate_left;refine eK ?_;refine Cm rfl rfl rfl (fun aj=>?_) (fun aj=>?_);refine eK ?_;refine xR ?_;rotate_left;refine eK ?_;refine xR ?_;rotate_left
     all_goals first|exact ⟨rfl,X⟩|exact absurd Ab V
def XA (e:EX) (Z:e.wf) (hv:e.valid) (S:nP) (O:oA) (U:Nat) (V:oA) (pc:Nat) (Y:oA) (mc:Nat) (w:wD) (f:e.sits S w O V Y U) :
 Calls prog 22 #[.agg (e.cells O U V pc Y mc).toArray] w (KS e.g.pinv 0 w):=by
 have X:=dI w;have f:=f.ltA;have HV:=bA (fun w1 h=>IE e Z (· < w.heap.size) O U V pc Y mc w1 h);rw [decide_eq_true hv] at HV;have HI:=bA (fun w1 h=>Id Z.g hv.2.1.1 (· < w.heap.size) O U V pc Y mc w1 h);rw [<-PG.pinv_eq] at HI;clear Z hv;have F:=f.g;unfold eP at *;generalize e.g.pinv=u at *;refine Af func22 ntmps22 rfl rfl ?_;refine cS (eB [_,_,_,_,_,_,_,_,_,_,_,_] ?_);intro b1 w2 L x5 p6 z7;revert X f F;refine eE x5 ?_;intro X f F;refine eA [_,_,_,_,_,_] ?_;intro b8 w9 E aa al am;revert L X f F;refine eE aa ?_;intro L X f F;refine eK ?_;refine Bm [_,_,_,_,_,_,_,_,_,_,_,_] Ac rfl rfl rfl L rfl rfl rfl (cC rfl (HV.out _ Ag) ?_);rintro _ an ⟨⟨⟩,ab⟩;revert E L X f F;refine eY ab ?_;intro ao E L X f F;refine eK ?_;refine Au (Bb Bl rfl (HI.out _ Ag) (fun _ _ ⟨_,_,_,_,_,_,h⟩=>⟨_,h.1⟩)) rfl ?_ aFh;rintro _ ap ⟨af,⟨ag,⟨ah,⟨ai,⟨aj,⟨ak,⟨⟨⟩,⟨M,⟨N,⟨ac,ad⟩⟩⟩⟩⟩⟩⟩⟩⟩⟩;revert E L X f F;refine eY ad ?_;intro aq E L X f F;refine eK ?_;refine eS [_,_,_,_,_,_] E ?_;intro ar au ae av;revert M N L X f F;refine eF ae ?_;intro M N L X f F;refine C1 Pa (cT (BD ?_));refine FW rfl Ac rfl rfl rfl Ag rfl rfl ?_;exact Ny M N ac X Ab Ab
def PDsC.move {S S':nP} {w w':wD} {l:List PD} {a:oA} (h:PDsC S w l a) (f : ∀b,S b->S' b) (E : ∀b o v,S b->w.cell? ⟨b,o,none⟩=some v->w'.cell? ⟨b,o,none⟩=some v):PDsC S' w' l a:=
 h.mono f (fun b _ _ _ F ⟨L,pc,ba,bc,h1,h2,h3,h4⟩=>⟨L,pc,ba,bc,LG h1 (fun o v=>E b o v F),h2.move f E,fF f E _ ba h3,h4⟩)
def EX.sits.move {S S':nP} {w w':wD} {e:EX} {L M f:oA} {N:Nat} (h:e.sits S w L M f N) (E : ∀b,S b->S' b) (F : ∀b o v,S b->w.cell? ⟨b,o,none⟩=some v->w'.cell? ⟨b,o,none⟩=some v):e.sits S' w' L M f N:=
 have O:=h.p.move E F
 ⟨⟨h.g.vars.move E F,O.pds,fF E F _ f h.g.main⟩,O,h.room⟩
def EX.sits.wide {S S':nP} {w:wD} {e:EX} {f E F:oA} {L:Nat} (h:e.sits S w f E F L) (M : ∀b,S b->S' b):e.sits S' w f E F L:=⟨h.g.wide M,h.p.wide M,h.room⟩
def EX.sits.lt2 {S:nP} {w:wD} {e:EX} {E F f:oA} {L:Nat} (h:e.sits S w E F f L):e.sits (fun b=>S b/\b<w.heap.size) w E F f L:=
 have M:=h.p.lt2
 ⟨⟨h.g.vars.lt2,M.pds,Gs _ f h.g.main⟩,M,h.room⟩
def Z6 (S:nP) (w:wD) (b o:Nat) (e:EX):Prop:= ∃va vc pa pc ma mc,Row w ⟨b,o,none⟩ (e.cells va vc pa pc ma mc)/\e.sits S w va pa ma vc
def EXs (S:nP) (w:wD) (l:List EX) (a:oA):Prop:=Arr S 12 (Z6 S) w l a
def EXs.ext {S:nP} {w w':wD} {l:List EX} {a:oA} (h:EXs S w l a) (x:Ext w w'):EXs S w' l a:=
 h.mono aFh (fun _ _ _ _ _ ⟨f,vc,pa,pc,ma,mc,h1,h2⟩=>⟨f,vc,pa,pc,ma,mc,h1.ext x,h2.ext x⟩)
instance {S:nP} {w w':wD} {l:List EX} {a:oA}:LfE w w' (EXs S w l a) (EXs S w' l a):=⟨fun x h=>Bk.EXs.ext h x⟩
def EXs.fr {S T:nP} {w w':wD} {l:List EX} {a:oA} (h:EXs S w l a) (x:Fr T w w') (f : ∀b,S b -> ¬T b):EXs S w' l a:=
 h.mono aFh (fun b _ _ _ E ⟨F,vc,pa,pc,ma,mc,h1,h2⟩=>⟨F,vc,pa,pc,ma,mc,h1.fr x (f b E),h2.fr x f⟩)
instance {S T:nP} {w w':wD} {l:List EX} {a:oA}:LfF T w w' (EXs S w l a) (∀b,S b -> ¬T b) (EXs S w' l a):=⟨fun x s h=>Bk.EXs.fr h x s⟩
def EXs.ltA {S:nP} {w:wD} {l:List EX} {a:oA} (h:EXs S w l a):EXs (· < w.heap.size) w l a:=by
 rcases h with h|⟨b,o,h1,Z,f⟩
 . exact bC h
 . cases l with
   | nil=>exact bC rfl
   | cons p r=>
    obtain ⟨E,F,L,M,N,O,U,-⟩:=f 0 p rfl;refine bF ⟨b,o,h1,Cb (U.at0 rfl),fun i v V=>?_⟩;obtain ⟨E,F,L,M,N,O,X,Y⟩:=f i v V;exact ⟨E,F,L,M,N,O,X,Y.ltA⟩
def EXs.take {S:nP} {w:wD} {l:List EX} {a:oA} (h:EXs S w l a) (n:Nat):EXs S w (l.take n) a:=by
 rcases h with h|⟨b,o,h1,E,F⟩
 . exact bC (by rw [h];simp)
 . refine bF ⟨b,o,h1,E,fun i x f=>F i x ?_⟩;rw [List.getElem?_take] at f;split at f
   . exact f
   . cases f
def Fy:Shape EX where
 sz:=12
 rep:=fun w S e cs=> ∃va vc pa pc ma mc,cs=e.cells va vc pa pc ma mc/\e.sits S w va pa ma vc
 len:=fun ⟨_,_,_,_,_,_,h,_⟩=>by rw [h];rfl
 one:=fun ⟨_,_,_,_,_,_,h,_⟩=>by rw [h];rfl
 mono:=fun ⟨va,vc,pa,pc,ma,mc,h,h1⟩ hS hc=>⟨va,vc,pa,pc,ma,mc,h,h1.move hS hc⟩
 lt:=fun ⟨va,vc,pa,pc,ma,mc,h,h1⟩=>⟨va,vc,pa,pc,ma,mc,h,h1.lt2⟩
def OwnQ.exs {w:wD} {R:nP} {B e:Nat} {a:oA} {len cap:Nat} {xs:List EX} {S:nP} (h:OwnQ Fy w R B e (.slice a len cap) xs) (M : ∀b,R b->S b) (N : ∀b,B<=b->b<w.heap.size->S b):EXs S w xs a:=by
 by_cases E:xs=[]
 . exact bC E
 . obtain ⟨g,F,L,O,U,f⟩:=h.rows E;simp only [bZ] at L;obtain ⟨rfl,-,-⟩:=L;refine bF ⟨g,0,rfl,N g O U,fun i x V=>?_⟩;obtain ⟨cs,X,Y,Z,pa,pc,ma,mc,rfl,h2⟩:=f i x V;exact ⟨Y,Z,pa,pc,ma,mc,by simpa [Fy] using X,h2.wide M⟩
def Fi (l:List EX) (s:lB):Bool:=l.any fun e=>e.name==s
def Yh (l:List EX) (hl:l.length<=1000000) (s:lB) (S:nP) (a:oA) (c:Nat) (w:wD) (f:EXs S w l a) :
 Calls prog 29 #[.slice a l.length c,str s] w fun r w'=>r = .returned (.bool (Fi l s))/\Ext w w':=by
 have X:=dI w;have f:=f.ltA;refine Af func29 ntmps29 rfl rfl ?_;refine cS (C1 Pa (cT (Aj (cS (C1 Mv (C1 Pz (C1 Mv (cT ?_))))))));refine Ar ?_;refine AJ (ι:=Nat) (fun j=>[(1,str s),(4,.bool false),(7,.slice a l.length c),(8,.int .i64 l.length),(9,.int .i64 j)])
  (fun j w'=>j<=l.length/\Fi (l.take j) s=false/\EXs (· < w.heap.size) w' l a/\Ext w w') (fun j=>l.length-j) 0 sB ⟨bI _,rfl,f,X⟩ ?_
 clear f X;rintro j w1 ⟨hj,M,f,X⟩;by_cases E:j<l.length
 . obtain ⟨kb,ko,rfl,-,hk⟩:=eW f Ab;obtain ⟨va,vc,pa,pc,ma,mc,F,-⟩:=hk j _ (aY E);have L:Fi (l.take (j+1)) s=(Fi (l.take j) s||l[j].name==s):=by
    unfold Fi;rw [bE E,List.any_append];simp
   rw [M,Bool.false_or] at L;have N:l[j].name=s->Fi l s=true:=fun h=>by
    unfold Fi;rw [List.any_eq_true];exact ⟨_,bD E,by simpa using h⟩
   clear hk;generalize l[j]=e at *;unfold eP at F;by_cases he:e.name=s
   . rw [N he];clear L N;generalize e.name=t at *;refine eK ?_;refine xA [_,_,_,_,_,_,_,_,_,_,_,_] ?_;intro ab ac O;refine eI [_,_,_,_,_,_,_,_,_,_,_,_] O ?_;intro ad ae U af ag;revert X f F;refine eE U ?_;intro X f F;refine eK ?_;refine xR ?_;exact ⟨rfl,X⟩
   . have V:Fi (l.take (j+1)) s=false:=by rw [L];simpa using he
     clear L N;generalize e.name=t at *;refine eK ?_;refine xA [_,_,_,_,_,_,_,_,_,_,_,_] ?_;intro ah ai Y;refine eI [_,_,_,_,_,_,_,_,_,_,_,_] Y ?_;intro aj Z aa ak al;revert X f F;refine eE aa ?_;intro X f F;refine cN (C1 Pg (C1 (Pl Z) (C1 Mv (C1 V8 (cT (N0 (As (Ae (Ai (Ad (C1 V7 ?_)))))))))));refine C1 Mv (Ah ?_);exact Aw (j+1) sB ⟨Ab,V,Ag,X⟩ Ab
 . obtain rfl:j=l.length:=by omega
   rw [bH] at M;rw [M];refine eK ?_;refine xR ?_;exact ⟨rfl,X⟩
def E1 (eb lb:Nat):lV:=[str [112,111,105,110,116,115],.pointer (some ⟨eb,1,none⟩),str [102,117,101,108],.pointer (some ⟨eb,2,none⟩),str [118,97,108,117,101],.pointer (some ⟨eb,3,none⟩),str [108,101,110,103,116,104],.pointer (some ⟨eb,4,none⟩),str [105,110,112,117,116],.pointer (some ⟨eb,5,none⟩),str [108,105,110,101,115],.pointer (some ⟨lb,0,none⟩)]
def FieldsR (eb lb:Nat) (w:wD):Ending->wD->Prop:=fun e w'=> ∃g,e = .returned (.slice (some ⟨g,0,none⟩) 6 6)/\Blk w' g (E1 eb lb)/\w.heap.size<=g/\Ext w w'
def FieldsR.ret {f E:Nat} {w w':wD} {e:Ending} (h:FieldsR f E w e w') : ∃v,e = .returned v:=by
 obtain ⟨_,h,-⟩:=h;exact ⟨_,h⟩
def Qw (M N:Nat) (w:wD):Calls prog 61 #[.pointer (some ⟨M,0,none⟩),.pointer (some ⟨N,0,none⟩)] w (FieldsR M N w):=by
 have X:=dI w;refine Af func61 ntmps61 rfl rfl ?_;refine eK ?_;refine AC (fun E=>Ext w E) 25 (.pure 0 (.pure 1 (.pure 2 (.pure 3 (.pure 4 (.pure 5 (.pure 6 (.pure 7 (.pure 8 (.pure 9 (.pure 10 (.pure 11 (.pure 12 (.pure 13 (.pure 14 (.pure 15 (.pure 16 (.pure 17 (.pure 18 (.pure 19 (.pure 20 (.pure 21 (.pure 22 (.pure 23 (.pure 24 .tail))))))))))))))))))))))))) mixed Bl (Aa An) ?_;intro O F _;have f:(fun E=>Ext w E) O:=F;simp only at f;have z4:=F.size;have X:=X.ext F;refine ⟨f,?_⟩;refine eT ?_;refine Tq rfl (xB [_,_]) ?_;refine eT ?_;refine Tq rfl (xB [_,_]) ?_;refine eT ?_;refine Tq rfl (xB [_,_]) ?_;refine eT ?_;refine Tq rfl (xB [_,_]) ?_;refine eT ?_;refine Tq rfl (xB [_,_]) (Tq rfl Mv (Tq rfl (xB [_,_]) ?_));refine AF rfl ?_;refine Au (xS [_,_,_,_,_,_,_,_,_,_,_,_]) rfl ?_ aFh;rintro _ w6 ⟨U,rfl,h,t8⟩;have V:=h.blk;have L:=h.ext;have Y:=h.pos;have Z:=h.size;have X:=X.ext L;refine eK ?_;refine xR ?_;exact ⟨U,rfl,by exact V,Ab,X⟩
section
variable {α:Type} {c:α->Value} {h1 : ∀x,eL (c x)=true} {w:wD} {R:nP} {B e:Nat} {v:Value} {xs ys:List α}
def Mx (c:α->Value) : ∀xs:List α,(xs.map fun x=>[c x]).flatten=xs.map c
 | []=>rfl
 | x::xs=>by simp only [List.map_cons,cI,Mx c xs];rfl
def OwnQ.ofOwn (h:Own w B e 1 v xs.length (xs.map c)):OwnQ (EN c h1) w R B e v xs:=
 ⟨⟨xs.map fun x=>[c x],by rw [Mx];exact h,Bd,fun i y cs E f=>by
  rw [List.getElem?_map,E] at f;exact (bO f).symm⟩⟩
def OwnQ.toOwn (h:OwnQ (EN c h1) w R B e v xs):Own w B e 1 v xs.length (xs.map c):=by
 obtain ⟨f,F,O,M⟩:=h.ex;have N:f=xs.map fun x=>[c x]:=by
  apply List.ext_getElem?;intro i;rw [List.getElem?_map];rcases bQ i xs.length with E|E
  . have L:f[i]? = some f[i]:=aY Ab;rw [L,aY E];exact congrArg some (M i _ _ (aY E) L)
  . rw [bS E,bS Ab];rfl
 rw [N,Mx] at F;exact F
def OwnQ.lits {b:Nat} (h:TB w b (xs.map c) e) (f:B<=b) (E:0<xs.length) (F:xs.length<=1000):OwnQ (EN c h1) w R B e (.slice (some ⟨b,0,none⟩) xs.length xs.length) xs:=
 OwnQ.ofOwn ⟨Bd,bF ⟨b,xs.length,(xs.map c).toArray,rfl,f,h,bJ _,by unfold maxLen;omega,Bd,by simp;exact List.take_of_length_le Bd⟩⟩
def OI {P:Program} {n:Nat} {l:Sl} {tab:Tab} {zt:Ey} {ty:TypeId} {x y:Operand} {t sz1 cap m:Nat} {sE:Sk} {zs:lV} {p:Addr} (T:TabOk P tab) (Z:Cy P zt) (ht:AD tab t=some (.slice e,sz1)) (hE:AD tab e=some (sE,1)) (hz:CT zt e=some zs) (hzl:zs.length=1)
 (hby:Do P e=true) (hx:ev l x=some v) (hy:ev l y=some (.slice (some p) m cap)) (hm:ys.length=m) (hown:OwnQ (EN c h1) w R B e v xs) (hr:Row w p (ys.map c)) (h0:0<m) (hlen:xs.length+m<=10000000000) (hB:B<=w.heap.size) :
 Cr P n l (.call ⟨.builtin .append,#[x,y],#[t,t]⟩) ty w (X8 (EN c h1) w R B e v (xs++ys)):=by
 subst hm;have hd:=Er (P:=P) (n:=n) (l:=l) (ty:=ty) T Z ht hE hz hzl hby rfl hx hy hown.toOwn hr Bd (by rw [cX];intro u hu;obtain ⟨q,-,rfl⟩:=List.mem_map.1 hu;exact h1 q) Ab Ab hB;unfold Cr at hd ⊢;intro a dst pos after g next Q ha hn b;refine hd a dst pos after g next Q ha (fun v' w' hG=>?_) (fun w' hG=>hG.elim);obtain ⟨g1,g2,g,cap',rfl,g4⟩:=hG;have hg:=g1.blk (k:=g) rfl;refine hn _ w' ⟨g,cap',by rw [aU],OwnQ.ofOwn (by rw [aU,List.map_append];exact g1),g4,hg.2,g2⟩
def RE {P:Program} {n:Nat} {l:Sl} {tab:Tab} {zt:Ey} {ty:TypeId} {ops:Array Oper} {Q:Exit->Act->wD->Prop} {rest:List Oper} {d:Nat} {pos:String} {after:Array Edge} {x y:Operand} {t M cap m:Nat} {sE:Sk} {U:lV} {p:Addr} (T:TabOk P tab) (Z:Cy P zt) (V:AD tab t=some (.slice e,M)) (X:AD tab e=some (sE,1)) (Y:CT zt e=some U) (N:U.length=1)
 (O:Do P e=true) (hx:ev l x=some v) (hy:ev l y=some (.slice (some p) m cap)) (hm:ys.length=m) (F:OwnQ (EN c h1) w R B e v xs) (hr:Row w p (ys.map c)) (h0:0<m) (L:xs.length+m<=10000000000) (hB:B<=w.heap.size) (hd:bM d n=true)
 (k : ∀g f E,OwnQ (EN c h1) E R B e (.slice (some ⟨g,0,none⟩) (xs++ys).length f) (xs++ys)->(v.ownBlock=some g\/w.heap.size<=g)->g<E.heap.size->Fr (fun k=>v.ownBlock=some k) w E->LW P n ops Q rest ((d,.slice (some ⟨g,0,none⟩) (xs++ys).length f)::l) E) :
 LW P n ops Q (⟨some d,.call ⟨.builtin .append,#[x,y],#[t,t]⟩,ty,pos,after,none⟩::rest) l w:=
 Au (OI T Z V X Y N O hx hy hm F hr h0 L hB) hd (fun v E ⟨g,cap,h,ho,h1,h2,hf⟩=>by subst h;exact k g cap E ho h1 h2 hf) aFh
end
end Bk
namespace Bk
open Go Go.RowKit Go.Proofs
def OwnQ.cap {α:Type} {sh:Shape α} {w:wD} {R:nP} {B e:Nat} {a:oA} {len cap:Nat} {xs:List α} (h:OwnQ sh w R B e (.slice a len cap) xs):xs.length<=cap:=by
 obtain ⟨E,⟨-,h1⟩,-⟩:=h.ex;rcases h1 with ⟨f,L⟩|⟨g,c,F,f,-,-,M,-⟩
 . omega
 . simp only [bZ] at f;omega
def XB {w:wD} {R:nP} {B e:Nat} {a:oA} {cap:Nat} {xs:List lB} (sep:lB) (h:OwnQ Mt w R B e (.slice a xs.length cap) xs) (hN:xs.length<=1000000000) (hlen:(Lib.join xs sep).length<=140737488355328) :
 Calls prog 63 #[.slice a xs.length cap,str sep] w fun r w'=>r = .returned (str (Lib.join xs sep))/\Ext w w':=by
 have hc:=h.cap;have he:=h.els (S:=fun b=>b<w.heap.size) (fun _ _ h=>h);by_cases hx:xs=[]
 . subst hx;refine (Tryz.strings_Join_none a cap ⟨sep.toArray⟩ w).mono fun r w' ⟨h1,h2⟩=>⟨?_,?_⟩
   . rw [h1];rfl
   . rw [h2];exact dI _
 . obtain ⟨g,o,rfl,hg,hr⟩:=Xx he hx;have hm:(xs.map (fun l=>(⟨l.toArray⟩:ByteArray))).map (·.data.toList)=xs:=by
    rw [List.map_map]
    conv=>rhs;rw [<-List.map_id xs]
    exact List.map_congr_left (fun _ _=>rfl)
   have hl:(xs.map (fun l=>(⟨l.toArray⟩:ByteArray))).length=xs.length:=by simp
   have key:=Tryz.strings_Join g o cap (xs.map (fun l=>(⟨l.toArray⟩:ByteArray))) ⟨sep.toArray⟩ w (fun j x hj=>by
    rw [List.getElem?_map,Option.map_eq_some_iff] at hj;obtain ⟨y,hy,rfl⟩:=hj;have:=hr.at (i:=j) (v:=str y) (by simp [hy]);exact this) hg (by rw [hl];omega) (by rw [hl];exact hc) (by rw [hm];exact hlen)
   rw [hl,hm] at key;exact key.mono fun r w' ⟨h1,h2⟩=>⟨h1,h2⟩
attribute [local irreducible] Go.Calls
def Dn (e:EX) (n:Int):List (lB×Int):=[([112,111,105,110,116,115],e.points),([102,117,101,108],e.fuel),([118,97,108,117,101],e.box.v),([108,101,110,103,116,104],e.box.l),([105,110,112,117,116],e.box.i),([108,105,110,101,115],n)]
def KX (e:EX) (n:Int):List lB:=[[101,120,101,114,99,105,115,101],e.name]++(Dn e n).flatMap fun p=>[p.1,Lib.itoa p.2]
def KY (e:EX) (n:Int):lB:=Lib.join (KX e n) [32]++[10]
structure EX.rng (e:EX):Prop where
 p : -9223372036854775808<=e.points/\e.points<=9223372036854775807
 f : -9223372036854775808<=e.fuel/\e.fuel<=9223372036854775807
 v : -9223372036854775808<=e.box.v/\e.box.v<=9223372036854775807
 l : -9223372036854775808<=e.box.l/\e.box.l<=9223372036854775807
 i : -9223372036854775808<=e.box.i/\e.box.i<=9223372036854775807
def EO (e:EX) (n:Int) (j:Nat):List lB:=[[101,120,101,114,99,105,115,101],e.name]++((Dn e n).take j).flatMap fun p=>[p.1,Lib.itoa p.2]
def Qx (e:EX) (n:Int) (j:Nat) (p:lB×Int) (h:(Dn e n)[j]? = some p):EO e n (j+1)=EO e n j++[p.1,Lib.itoa p.2]:=by
 unfold EO;have f:j<(Dn e n).length:=(List.getElem?_eq_some_iff.1 h).1;rw [bE f,List.flatMap_append,<-cF];rw [aY f] at h;rw [bO h];simp
def VO (e:EX) (n:Int) (f E:Nat) (w:wD) (g:Nat) (N:Blk w g (E1 f E)) {cs:lV} (O:Blk w f ([str e.name,.int .i64 e.points,.int .i64 e.fuel,.int .i64 e.box.v,.int .i64 e.box.l,.int .i64 e.box.i]++cs)) (U:Blk w E [.int .i64 n]) (j:Nat) (Y:j<6) :
 ∃L num fb M,(Dn e n)[j]? = some (L,num)/\Row w ⟨g,0+j*2,none⟩ [str L,.pointer (some ⟨fb,M,none⟩)]/\Row w ⟨fb,M,none⟩ [.int .i64 num]/\(fb=f\/fb=E):=by
 have h:=N.row.sub (j*2) 2;have V:=O.row;have key : ∀(o:Nat) (num:Int),([str e.name,.int .i64 e.points,.int .i64 e.fuel,.int .i64 e.box.v,.int .i64 e.box.l,.int .i64 e.box.i]++cs)[o]? = some (.int .i64 num)->Row w ⟨f,o,none⟩ [.int .i64 num]:=fun o num X i v F=>by
  match i,F with
  | 0,F=>
   simp only [List.getElem?_cons_zero,bK] at F;subst F;have:=V.at X;simpa [cU] using this
 rcases (show j=0\/j=1\/j=2\/j=3\/j=4\/j=5 by omega) with rfl|rfl|rfl|rfl|rfl|rfl
 . exact ⟨_,_,f,1,rfl,h,key 1 _ rfl,bC rfl⟩
 . exact ⟨_,_,f,2,rfl,h,key 2 _ rfl,bC rfl⟩
 . exact ⟨_,_,f,3,rfl,h,key 3 _ rfl,bC rfl⟩
 . exact ⟨_,_,f,4,rfl,h,key 4 _ rfl,bC rfl⟩
 . exact ⟨_,_,f,5,rfl,h,key 5 _ rfl,bC rfl⟩
 . exact ⟨_,_,E,0,rfl,h,U.row,bF rfl⟩
def Ko (e:EX) (n:Int) (h:e.rng) (F:0<=n/\n<=9223372036854775807) : ∀p∈Dn e n,-9223372036854775808<=p.2/\p.2<=9223372036854775807:=by
 intro p E;simp only [Dn,bR,List.mem_nil_iff,or_false] at E;rcases E with rfl|rfl|rfl|rfl|rfl|rfl
 . exact h.p
 . exact h.f
 . exact h.v
 . exact h.l
 . exact h.i
 . exact ⟨by show -9223372036854775808<=n;omega,F.2⟩
def I6 (e:EX) (n:Int) (j:Nat) (h:j<=6):(EO e n j).length=2+2*j:=by
 rcases (show j=0\/j=1\/j=2\/j=3\/j=4\/j=5\/j=6 by omega) with rfl|rfl|rfl|rfl|rfl|rfl|rfl<;>simp [EO,Dn]
def Kq : ∀l:List (lB×Int),(∀p∈l,p.1.length<=10 /\ -9223372036854775808<=p.2/\p.2<=9223372036854775807)->Lib.lens (l.flatMap fun p=>[p.1,Lib.itoa p.2])<=l.length*31
 | [],_=>by simp [Lib.lens]
 | p::l,h=>by
  have h1:=h p Bd;have F:=Lib.itoa_length_le p.2 h1.2.1 h1.2.2;have f:=Kq l (fun q E=>h q (by simp [E]));unfold Lib.lens at f ⊢;simp only [List.flatMap_cons,List.cons_append,List.nil_append,List.map_cons,List.sum_cons,aV];omega
def IF (e:EX) (n:Int):(Dn e n).length=6:=rfl
def My (e:EX) (n:Int) : ∀p∈Dn e n,p.1.length<=10:=by
 intro p f;simp only [Dn,bR,List.mem_nil_iff,or_false] at f;rcases f with rfl|rfl|rfl|rfl|rfl|rfl<;>simp
def Mz : ∀l:List (lB×Int),(l.flatMap fun p=>[p.1,Lib.itoa p.2]).length=l.length*2
 | []=>rfl
 | p::l=>by simp only [List.flatMap_cons,aU,aV,aX,Mz l];omega
def T3 (e:EX) (n:Int) (h:e.rng) (E:0<=n/\n<=9223372036854775807) (F:e.name.length<=100000):(Lib.join (KX e n) [32]).length<=140737488355328:=by
 have h1:=Kq (Dn e n) (fun p f=>⟨My e n p f,Ko e n h E p f⟩);have L:=Mz (Dn e n);rw [IF] at h1 L;unfold KX;generalize (Dn e n).flatMap (fun p=>[p.1,Lib.itoa p.2])=r at *;rw [List.cons_append,Lib.join_length];unfold Lib.lens at h1 ⊢;simp only [List.cons_append,List.nil_append,aV,aX,List.map_cons,List.sum_cons];omega
def VP (e:EX) (n:Int) (hr:e.rng) (hn:0<=n/\n<=9223372036854775807) (ao:e.name.length<=100000) (va:oA) (vc:Nat) (pa:oA) (pc:Nat) (ma:oA) (mc:Nat) (w:wD) (N:TabsF w) :
 Calls prog 32 #[.agg (e.cells va vc pa pc ma mc).toArray,.int .i64 n] w fun r w'=>r = .returned (str (KY e n))/\Ext w w':=by
 have X:=dI w;have HF:=bA (fun eb lb w1=>Qw eb lb w1);have bo:=N.g;have ap:=T3 e n hr hn ao;unfold eP;refine Af func32 ntmps32 rfl rfl ?_;refine cS (eB [_,_,_,_,_,_,_,_,_,_,_,_] ?_);intro b1 w2 O x5 p6 z7;revert N X;refine eE x5 ?_;intro N X;refine eB [_] ?_;intro b8 w9 E aq bp bq;revert O N X;refine eE aq ?_;intro O N X;refine eK ?_;refine Au (xS [_,_]) rfl ?_ aFh;rintro _ br ⟨ar,rfl,ad,au⟩;have aa:TB _ _ _ _:=au;have av:=ad.ext;have bs:=ad.pos;have z22:=ad.size;revert E O N X;refine eE av ?_;intro E O N X;refine eK ?_;refine eQ rfl (HF.out _ _ _) ?_;rintro _ bt ⟨Y,⟨⟨⟩,⟨F,⟨bu,aw⟩⟩⟩⟩;revert aa E O N X;refine eY aw ?_;intro bv aa E O N X;refine C1 Pz (C1 Mv (cT ?_));have ae:=F.lt;have a6:=X.size;refine Ar ?_;refine AJ (ι:=Nat×oA×Nat) (fun x=>[(5,.slice x.2.1 (EO e n x.1).length x.2.2),(11,.slice (some ⟨Y,0,none⟩) 6 6),(12,.int .i64 6),(13,.int .i64 x.1)])
  (fun x w'=>x.1<=6/\OwnQ Mt w' (fun _=>False) (b8+1) 9 (.slice x.2.1 (EO e n x.1).length x.2.2) (EO e n x.1)/\(∀k,(cP x.2.1 (EO e n x.1).length x.2.2).ownBlock=some k->k≠Y)/\Blk w' Y (E1 b1 b8)/\Blk w' b8 [.int .i64 n]/\Blk w' b1 [str e.name,.int .i64 e.points,.int .i64 e.fuel,.int .i64 e.box.v,.int .i64 e.box.l,.int .i64 e.box.i,.slice va e.g.vars.length vc,.slice pa e.g.procs.length pc,.int .u8 e.g.main.kind,.int .i64 e.g.main.num,str e.g.main.name,.slice ma e.g.main.kids.length mc]/\TabsF w'/\Ext w w'/\Y<w'.heap.size)
  (fun x=>6-x.1) (0,some ⟨ar,0,none⟩,2) sB ⟨bI _,OwnQ.lits (xs:=EO e n 0) aa Ab (by rw [I6 e n 0 Ab];omega) (by rw [I6 e n 0 Ab];omega),fun k hk=>by simp only [cV,bK] at hk;omega,F,E,O,N,X,ae⟩ ?_
 clear F E O N X aa ae;rintro ⟨j,ra,rc⟩ w3 ⟨hj,f,af,F,E,O,N,X,ae⟩;simp only at hj f af;have U : ∀k,(cP ra (EO e n j).length rc).ownBlock=some k->b8<k/\k<w3.heap.size/\k≠Y:=fun k h=>⟨f.ge h,f.lt h,af k h⟩
 have ag:=I6 e n j hj;by_cases ax:j<6
 . obtain ⟨wd,num,fb,fo,hf,r1,r2,bw⟩:=VO e n b1 b8 w3 Y F O E j ax;have hs:=Qx e n j _ hf;have ay:=Ko e n hr hn _ (List.mem_of_getElem? hf);simp only at hs ay;have a7:(EO e n j).length<=100:=by omega
   clear ag hf;generalize EO e n j=ws at *;refine eK ?_;refine xA [_,_] ?_;intro bx bz az;refine eI [_,_] az ?_;intro ah V a0 b0 b2;revert F E O N X r1 r2 f;refine eE a0 ?_;intro F E O N X r1 r2 f;refine cT (AC (fun wz=>Ext ah wz) 9 (.pure 0 (.pure 1 (.pure 2 (.pure 3 (.pure 4 (.pure 5 (.pure 6 (.fork 7 (.fork 8 .tail .none) .none)))))))) mixed Bl (Al (Aa (Aa (Al (Aa An))))) ?_);intro a1 ab _;have L:(fun wz=>Ext ah wz) a1:=ab;simp only at L;have a2:=V;have a3:=F;have a4:=E;have a8:=O;have a9:=N;have ba:=r1;have ai:=r2;have an:=f;revert V F E O N X r1 r2 f;refine eY ab ?_;intro bb V F E O N X r1 r2 f;refine ⟨L,?_⟩;refine eT ?_;refine Tq rfl (Ax Ac rfl rfl rfl (fun wz hz=>fC (dZ ai hz) rfl)) ?_;refine tC rfl rfl (Sz _ _ Ag Ab Ab) ?_;rintro _ bc ⟨⟨⟩,aj⟩;revert L V F E O N X r1 r2 f;refine eY aj ?_;intro bd L V F E O N X r1 r2 f;refine ⟨L,?_⟩;refine A1 rfl (xS [_,_]) rfl ?_ aFh A7;rintro _ be ⟨bf,rfl,Z,bg⟩;have ac:=Z.blk;have ak:=Z.ext;have bh:=Z.pos;have bi:=Z.size;revert L V F E O N X r1 r2 f;refine eE ak ?_;intro L V F E O N X r1 r2 f;refine ⟨L,?_⟩;refine AF rfl (RE (ys:=[wd,Lib.itoa num]) Ac CM rfl rfl rfl rfl Bl rfl rfl rfl Ag (eC Ag) Ab Ab Ab rfl ?_);rintro bj al bk bl am bm M;have bn:=M.size;have ac:=dQ ac M (fun e=>by have:=U _ e;omega);have V:=dQ V M (fun e=>by have:=U _ e;omega);have F:=dQ F M (fun e=>(U _ e).2.2 rfl);have E:=dQ E M (fun e=>by have:=U _ e;omega);have O:=dQ O M (fun e=>by have:=U _ e;omega);have N:=TabsF.fr N M (fun k hk=>by have:=U _ hk;omega);have X:=eX X M (fun k hk=>by have:=U _ hk;omega);have r1:=Row.fr r1 M (fun e=>(U _ e).2.2 rfl);clear r2 f M;refine C1 Pa (Ah (Ae (Ai (Ad (C1 V7 (C1 Mv (Ah ?_)))))))
   exact Aw (j+1,some ⟨_,0,none⟩,_) (by dsimp only;rw [hs];(refine Ak rfl ?_;refine Ak rfl ?_;refine Ak rfl ?_;refine Ak rfl ?_;exact AY)) ⟨by (try dsimp only);omega,by dsimp only;rw [hs];assumption,fun k hk=>by
    simp only [cV,bK] at hk;subst hk;rcases am with h|h
    . exact (U _ h).2.2
    . omega,F,E,O,N,X,Ab⟩ (by (try dsimp only);omega)
 . obtain rfl:j=6:=by omega
   unfold KY;have he:EO e n 6=KX e n:=rfl;rw [he] at f ag;refine CW.sub (m:=[(5,.slice ra (KX e n).length rc),(11,.slice (some ⟨Y,0,none⟩) 6 6),(12,.int .i64 6),(13,.int .i64 6)]) ?_ sB;clear af U he;generalize KX e n=ws at *;have HJ:=bA (fun w1 (h:OwnQ Mt w1 (fun _=>False) (b8+1) 9 (.slice ra ws.length rc) ws)=>XB [32] h Ab ap);refine eK ?_;refine cC rfl (HJ.out _ Ag) ?_;rintro _ b3 ⟨⟨⟩,a5⟩;revert F E O N X f;refine eY a5 ?_;intro b4 F E O N X f;refine C1 (At rfl rfl (by simp only [aV,aX];omega)) ?_;refine eK ?_;refine xR ?_;exact ⟨rfl,X⟩
structure Errs2 (w:wD):Prop where
 r:Errs w
 s : ∃te pe,w.cell? ⟨3,0,none⟩=some (.iface te pe)
 m : ∃m,w.cell? ⟨0,0,none⟩=some (.int .i64 m)
def Errs2.ext {w w':wD} (h:Errs2 w) (x:Ext w w'):Errs2 w':=by
 obtain ⟨r,⟨f,E,h1⟩,m,F⟩:=h;exact ⟨r.ext x,⟨f,E,x.keep h1⟩,m,x.keep F⟩
instance {w w':wD}:LfE w w' (Errs2 w) (Errs2 w'):=⟨fun x h=>Bk.Errs2.ext h x⟩
def Errs2.fr {S:nP} {w w':wD} (h:Errs2 w) (x:Fr S w w') (f : ∀k,S k->prog.globals.size<=k):Errs2 w':=by
 obtain ⟨r,⟨E,F,h1⟩,m,L⟩:=h;have g1:3<prog.globals.size:=of_decide_eq_true Bl;have M:0<prog.globals.size:=of_decide_eq_true Bl;have g3:4<prog.globals.size:=of_decide_eq_true Bl;exact ⟨r.fr x (fun h=>by have:=f _ h;omega),⟨E,F,x.keep (fun h=>by have:=f _ h;omega) h1⟩,m,x.keep (fun h=>by have:=f _ h;omega) L⟩
instance {S:nP} {w w':wD}:LfF S w w' (Errs2 w) (∀k,S k->prog.globals.size<=k) (Errs2 w'):=⟨fun x s h=>Bk.Errs2.fr h x s⟩
def Hm (s:lB):Int×Bool:=match Lib.atoiAll s with
 | .ok v=>if (0<=v/\v<=1000000000)/\Lib.itoa v=s then (v,true) else (0,false)
 | _=>(0,false)
def ZK (s:lB) (w:wD):Ending->wD->Prop:=fun e w'=>(∃v,Lib.atoiAll s = .ok v/\e = .returned (.tuple #[.int .i64 v,.nilIface])\/(∀v,Lib.atoiAll s≠.ok v) /\ ∃te pe,e = .returned (.tuple #[.int .i64 v,.iface te pe]))/\Ext w w'
def Qz (s:lB) (V:s.length<=1000000) (w:wD) (h:Errs2 w):Calls prog 156 #[str s] w (ZK s w):=by
 obtain ⟨O,⟨L,M,h1⟩,-⟩:=h;obtain ⟨f,E,U⟩:=O.ex;rcases ha:Lib.atoiAll s with v | - | -
 . refine (Tryz.strconv_Atoi_ok ⟨s.toArray⟩ (by rw [Ee];omega) v (by simpa using ha) w).mono ?_;rintro e w' ⟨rfl,rfl|⟨t,rfl⟩⟩
   . exact ⟨⟨v,bC ⟨ha,rfl⟩⟩,dI _⟩
   . exact ⟨⟨v,bC ⟨ha,rfl⟩⟩,Ext.bytes _ _ _⟩
 . refine (Any.strconv_Atoi_syntax Tryz.laysC172 ⟨s.toArray⟩ (by rw [Ee];omega) (by simpa using ha) (.iface L M) w h1 (bF ⟨L,M,rfl⟩)).mono ?_;rintro e w' ⟨N,rfl,-,-,F⟩;exact ⟨⟨_,bF ⟨fun v h=>(by rw [ha] at h;cases h),_,_,rfl⟩⟩,F⟩
 . refine (Tryz.strconv_Atoi_range ⟨s.toArray⟩ (by rw [Ee];omega) (by simpa using ha) (.iface f E) w U (bF ⟨f,E,rfl⟩)).mono ?_;rintro e w' ⟨N,rfl,-,-,F⟩;exact ⟨⟨_,bF ⟨fun v h=>(by rw [ha] at h;cases h),_,_,rfl⟩⟩,F⟩
def RF (s:lB) (hs:s.length<=1000000) (w:wD) (E:Errs2 w) (F:TabsF w) :
 Calls prog 111 #[str s] w fun r w'=>r = .returned (.tuple #[.int .i64 (Hm s).1,.bool (Hm s).2])/\Ext w w':=by
 have X:=dI w;by_cases O : ∃v,Lib.atoiAll s = .ok v
 . obtain ⟨v,M⟩:=O;have hb:=Lib.atoiAll_bounds M;have N:Hid (∀f,Errs2 f->Calls prog 156 #[str s] f fun e w'=>e = .returned (.tuple #[.int .i64 v,.nilIface])/\Ext f w'):=bA fun f h=>(Qz s hs f h).mono fun e w' ⟨⟨U,h1⟩,L⟩=>by
    rcases h1 with ⟨h1,h3⟩|⟨h1,-⟩
    . rw [M] at h1;injection h1 with h1
      subst h1;exact ⟨h3,L⟩
    . exact absurd M (h1 v)
   have e:Hm s=if (0<=v/\v<=1000000000)/\Lib.itoa v=s then (v,true) else (0,false):=by unfold Hm;rw [M]
   rw [e];have V:=bA (fun f h=>Sz v f h hb.1 hb.2);clear M e;by_cases h1:0<=v/\v<=1000000000
   . obtain ⟨o1,o2⟩:=h1;by_cases L:Lib.itoa v=s
     . rw [AU ⟨⟨o1,o2⟩,L⟩];rw [L] at V;refine Af func111 ntmps111 rfl rfl ?_;refine eK ?_;refine cC rfl (N.out _ Ag) ?_;rintro _ w2 ⟨⟨⟩,x1⟩;revert E F X;refine eY x1 ?_;intro z3 E F X;refine eK ?_;refine C1 (Gm Ac rfl rfl) ?_;refine eK ?_;refine cC rfl (V.out _ Ag) ?_;rintro _ w5 ⟨⟨⟩,x4⟩;revert E F X;refine eY x4 ?_;intro z6 E F X;refine Kz (C1 Mv (Kz (C1 V9 (C1 OQ (cT (Fa rfl (not_not_intro rfl) ?_))))));refine eK ?_;refine xT ?_;exact ⟨rfl,X⟩
     . rw [AE (fun h=>L h.2)];generalize Lib.itoa v=t at *;refine Af func111 ntmps111 rfl rfl ?_;refine eK ?_;refine cC rfl (N.out _ Ag) ?_;rintro _ af ⟨⟨⟩,Y⟩;revert E F X;refine eY Y ?_;intro ag E F X;refine eK ?_;refine C1 (Gm Ac rfl rfl) ?_;refine eK ?_;refine cC rfl (V.out _ Ag) ?_;rintro _ ah ⟨⟨⟩,Z⟩;revert E F X;refine eY Z ?_;intro ai E F X;refine eK ?_;refine xT ?_;exact ⟨rfl,X⟩
   . rw [AE (fun h=>h1 h.1)];refine Af func111 ntmps111 rfl rfl ?_
     focus
      refine eK ?_;refine cC rfl (N.out _ Ag) ?_;rintro _ aj ⟨⟨⟩,aa⟩;revert E F X;refine eY aa ?_;intro ak E F X;refine eK ?_;refine C1 (Gm Ac rfl rfl) ?_;refine eK ?_;refine Cm rfl rfl rfl (fun ab=>?_) (fun ab=>?_);refine eK ?_;refine xT ?_;rotate_left;refine eK ?_;refine xT ?_;rotate_left
     all_goals first|exact ⟨rfl,X⟩|exact absurd Ab h1
 . have e:Hm s=(0,false):=by
    unfold Hm;rcases ha:Lib.atoiAll s with v | - | -
    . exact absurd ⟨v,ha⟩ O
    . rfl
    . rfl
   rw [e];have N:Hid (∀f,Errs2 f->Calls prog 156 #[str s] f fun e w'=> ∃v te pe,e = .returned (.tuple #[.int .i64 v,.iface te pe])/\Ext f w'):=bA fun f h=>(Qz s hs f h).mono fun e w' ⟨⟨U,h1⟩,L⟩=>by
    rcases h1 with ⟨h1,h3⟩|⟨-,te,pe,h1⟩
    . exact absurd ⟨U,h1⟩ O
    . exact ⟨U,te,pe,h1,L⟩
   clear e O;refine Af func111 ntmps111 rfl rfl ?_;refine eK ?_;refine Au (Bb Bl rfl (N.out _ Ag) (fun _ _ ⟨_,_,_,h⟩=>⟨_,h.1⟩)) rfl ?_ aFh;rintro _ al ⟨am,⟨ad,⟨ae,⟨⟨⟩,ac⟩⟩⟩⟩;revert E F X;refine eY ac ?_;intro an E F X;refine eK ?_;refine C1 (OW Ac rfl rfl) ?_;refine eK ?_;refine xT ?_;exact ⟨rfl,X⟩
def Kr (s:lB):Nat->Option Nat
 | 0=>some 0
 | n+1=>(Kr s n).bind fun e=>if dA (s.drop e) 10<0 then none else some (e+(dA (s.drop e) 10).toNat+1)
def ER (s:lB) (n:Nat):lB×lB×Bool:=match Kr s n with
 | none=>([],[],false)
 | some e=>(s.take e,s.drop e,true)
def VQ {s:lB} (h : ¬dA s 10<0):(dA s 10).toNat<s.length:=by
 obtain ⟨o,f⟩:=Int.eq_ofNat_of_zero_le (show 0<=dA s 10 by omega);have:=(Lib.indexByte_some f).1;rw [f];exact (List.getElem?_eq_some_iff.1 this).1
def SF {s:lB} : ∀ {n e:Nat},Kr s n=some e->e<=s.length
 | 0,e,h=>by simp [Kr] at h;omega
 | n+1,e,h=>by
  simp only [Kr,Option.bind_eq_some_iff] at h;obtain ⟨F,h1,f⟩:=h;have L:=SF h1;split at f
  . cases f
  . rename_i E;have:=VQ E;rw [List.length_drop] at this;simp only [bK] at f;omega
def T4 {s:lB} {n m:Nat} (h:Kr s n=none) (E:n<=m):Kr s m=none:=by
 induction m with
 | zero=>
  have:n=0:=by omega
  subst this;exact h
 | succ m f=>
  rcases bQ m n with h1|h1
  . have:n=m+1:=by omega
    subst this;exact h
  . simp only [Kr,f h1,Option.bind_none]
def KZ (s:lB) (w:wD):Calls prog 112 #[str s,.int .u8 10] w fun e w'=>e = .returned (.int .i64 (dA s 10))/\w'=w:=
 (Tryz.strings_IndexByte ⟨s.toArray⟩ 10 w).mono fun e w' ⟨h1,h2⟩=>⟨h1,h2⟩
def ND (s:lB) (w:wD):Calls prog 33 #[str s,str [10]] w fun e w'=>e = .returned (.int .i64 (Lib.countByte s 10:Nat))/\w'=w:=
 (Tryz.strings_Count_one ⟨s.toArray⟩ 10 w).mono fun e w' ⟨h1,h2⟩=>⟨h1,h2⟩
def YX (s:lB) (hs:s.length<=1000000) (n:Nat) (hn:n<=1000000000) (w:wD) :
 Calls prog 71 #[str s,.int .i64 n] w fun r w'=>r = .returned (.tuple #[str (ER s n).1,str (ER s n).2.1,.bool (ER s n).2.2])/\Ext w w':=by
 have X:=dI w;have HI:=bA (fun s f=>KZ s f);refine Af func71 ntmps71 rfl rfl ?_;refine cS (C1 Pa (C1 Pa (C1 Pa (cN (C1 Pa (cT (Aj (cS (C1 Mv (C1 Mv (cT ?_)))))))))));refine Ar ?_;refine AJ (ι:=Nat×Nat) (fun x=>[(0,str s),(4,.string ⟨#[]⟩),(5,.string ⟨#[]⟩),(6,.bool false),(7,.int .i64 x.2),(9,.int .i64 n),(10,.int .i64 x.1)])
  (fun x w'=>x.1<=n/\Kr s x.1=some x.2/\Ext w w') (fun x=>n-x.1) (0,0) sB ⟨bI _,rfl,X⟩ ?_
 clear X;rintro ⟨j,e⟩ f ⟨hj,M,X⟩;simp only at hj M;have aa:=SF M;refine CW.sub (m:=[(0,str s),(4,.string ⟨#[]⟩),(5,.string ⟨#[]⟩),(6,.bool false),(7,.int .i64 e),(9,.int .i64 n),(10,.int .i64 j)]) ?_ sB;by_cases O:j<n
 . by_cases N:dA (s.drop e) 10<0
   . have U:ER s n=([],[],false):=by
      have:Kr s (j+1)=none:=by simp only [Kr,M,Option.bind_some,AU N]
      unfold ER;rw [T4 this O]
     rw [U];refine eK ?_;refine C1 (FH Ac rfl rfl rfl Ab) (cC rfl (HI.out _ _) ?_);rintro _ ab ⟨⟨⟩,rfl⟩;refine eK ?_;refine E4 rfl rfl rfl rfl ?_;exact ⟨rfl,X⟩
   . have E:=VQ N;rw [List.length_drop] at E;have F:Kr s (j+1)=some (e+(dA (s.drop e) 10).toNat+1):=by simp only [Kr,M,Option.bind_some,AE N]
     obtain ⟨o,V⟩:=Int.eq_ofNat_of_zero_le (show 0<=dA (s.drop e) 10 by omega);have HJ:Hid (∀f,Calls prog 112 #[str (s.drop e),.int .u8 10] f fun r w'=>r = .returned (.int .i64 (o:Int))/\w'=f):=bA fun f=>by rw [<-V];exact KZ _ f
     rw [V] at F E;simp only [Int.toNat_natCast] at F E;clear HI N V;refine eK ?_;refine C1 (FH Ac rfl rfl rfl Ab) (cC rfl (HJ.out _) ?_);rintro _ ac ⟨⟨⟩,rfl⟩;refine C1 Pa (cT (Aj (cS (C1 Mv (C1 V3 (cT (C9 (As (Ai (Ad (C1 Mv ?_)))))))))));refine C1 Mv (C1 V7 (C1 V7 (C1 Pa (Ah (Ae (Ai (Ad (C1 V7 (C1 Mv (Ah ?_))))))))));exact Aw (j+1,e+o+1) sB ⟨by (try dsimp only);omega,F,X⟩ (by (try dsimp only);omega)
 . obtain rfl:j=n:=by omega
   have U:ER s j=(s.take e,s.drop e,true):=by unfold ER;rw [M]
   rw [U];refine eK ?_;refine AC (fun Y=>Ext f Y) 7 (.pure 0 (.pure 1 (.pure 2 (.pure 3 (.pure 4 (.pure 5 (.pure 6 .tail))))))) mixed Bl (Aa An) ?_;intro Z L _;have h:(fun Y=>Ext f Y) Z:=L;simp only at h;have ad:=L.size;have X:=X.ext L;refine ⟨h,?_⟩;refine Tq rfl Mv (Tq rfl Mv (Tq rfl (M4 Ac rfl rfl rfl Ab Ab) (Tq rfl Mv (Tq rfl Mv (Tq rfl (FH Ac rfl rfl rfl Ab) (Tq rfl Pa ?_))))));refine AF rfl ?_;refine eK ?_;refine E4 rfl rfl rfl rfl ?_;exact ⟨by simp only [Int.toNat_natCast],X⟩
end Bk
namespace Bk
open Go Go.RowKit Go.Proofs
def Row.below {B:Nat} {w w':wD} {p:Addr} {vs:lV} (h:Row w p vs) (x:Below B w w') (f:p.block<B):Row w' p vs:=fun i v E=>by
 rw [Below.cell x (by rw [MZ];exact f)];exact h i v E
def VDs.below {B:Nat} {w w':wD} {l:List VD} {a:oA} (h:VDs (· < B) w l a) (x:Below B w w'):VDs (· < B) w' l a:=h.mono aFh (fun _ _ _ _ f h=>Row.below h x f)
def sits.below {B:Nat} {w w':wD} {t:Nd} {a:oA} (h:t.sits (· < B) w a) (x:Below B w w'):t.sits (· < B) w' a:=
 fF aFh (fun b o _ f E=>(Below.cell (p:=⟨b,o,none⟩) x f).trans E) t a h
def PDs.below {B:Nat} {w w':wD} {l:List PD} {a:oA} (h:PDs (· < B) w l a) (x:Below B w w'):PDs (· < B) w' l a:=
 h.mono aFh (fun _ _ _ _ f ⟨E,pc,ba,bc,h1,h2,h3⟩=>⟨E,pc,ba,bc,Row.below h1 x f,h2.below x,sits.below h3 x⟩)
def VDs.lt {S:nP} {w:wD} {l:List VD} {a:oA} (h:VDs S w l a):VDs (· < w.heap.size) w l a:=by
 rcases h with h|⟨b,o,h1,E,f⟩
 . exact bC h
 . cases l with
   | nil=>exact bC rfl
   | cons v r=>exact bF ⟨b,o,h1,Cb (fC (f 0 v rfl) rfl),f⟩
def PDs.lt {S:nP} {w:wD} {l:List PD} {a:oA} (h:PDs S w l a):PDs (· < w.heap.size) w l a:=by
 rcases h with h|⟨b,o,h1,X,E⟩
 . exact bC h
 . cases l with
   | nil=>exact bC rfl
   | cons v r=>
    obtain ⟨F,L,M,N,f,-,-⟩:=E 0 v rfl;refine bF ⟨b,o,h1,Cb (fC f rfl),fun i x O=>?_⟩;obtain ⟨F,L,M,N,f,U,V⟩:=E i x O;exact ⟨F,L,M,N,f,U.lt,Lj _ _ V⟩
def PG.sits.lt {S:nP} {w:wD} {g:PG} {f E F:oA} (h:g.sits S w f E F):g.sits (· < w.heap.size) w f E F:=⟨h.vars.lt,h.procs.lt,Lj _ _ h.main⟩
def TB.fb {w w':wD} {k B b:Nat} {vs:lV} {T:TypeId} (h:TB w k vs T) (x:Fb B b w w') (f:k≠b) (E:T≠5):TB w' k vs T:=
 (Box.fb (cs:=vs.toArray) ⟨h⟩ x f E).heap
def Bld.ofTB {w:wD} {B b:Nat} (h:TB w b [.pointer none,.slice none 0 0] 113) (f:B<=b):Bld B b [] w:=
 ⟨.inl ⟨f,.slice none 0 0,h,⟨rfl,.inl ⟨rfl,rfl⟩⟩,by simp [cV]⟩,by have:=h.blk.lt;omega⟩
def RG (v:VD) (X:v.ok=true) (B b:Nat) (l:lB) (w:wD) (h:Bld B b l w) (ht:Tabs w) (hg:prog.globals.size<=B) (f:l.length+v.text.length<=140737488355328) :
 Calls prog 57 #[.pointer (some ⟨b,0,none⟩),v.val] w fun e w'=>e = .returned (.tuple #[])/\Bld B b (l++v.text) w'/\Fb B b w w':=by
 have M:=h.le;simp only [VD.ok,bB] at X;have Y:=X.2;refine Af func57 ntmps57 rfl rfl ?_;refine eK ?_;refine DX rfl rfl rfl ?_;intro b1 w1 N t1;have h1:=N.blk;have Z:=N.ext;have O:=h.ext Z;by_cases c1:v.kind=1
 . have E:v.text=[105,110,116,32]++v.name:=by simp [fK,c1]
   rw [E] at f ⊢;refine eK ?_;refine Au (CN Ac CM rfl rfl rfl rfl rfl rfl rfl rfl) rfl ?_ aFh;rintro _ w2 ⟨b2,rfl,F,U⟩;refine cC rfl (Cj B b b2 2 l [[105,110,116,32],v.name] _ (O.ext F.ext) ⟨U⟩ Bd (by simpa using f)) ?_;rintro _ w3 ⟨⟨⟩,V,f3⟩;refine Ah (Ae ?_);exact Bn rfl ⟨rfl,by simpa using V,(fE (Z.trans F.ext) M).trans f3⟩
 by_cases c3:v.kind=3
 . have E:v.text=[115,116,97,99,107,32]++v.name:=by simp [fK,c3]
   rw [E] at f ⊢;refine eK ?_;refine Au (CN Ac CM rfl rfl rfl rfl rfl rfl rfl rfl) rfl ?_ aFh;rintro _ w2 ⟨b2,rfl,F,U⟩;refine cC rfl (Cj B b b2 2 l [[115,116,97,99,107,32],v.name] _ (O.ext F.ext) ⟨U⟩ Bd (by simpa using f)) ?_;rintro _ w3 ⟨⟨⟩,V,f3⟩;refine Ah (Ae ?_);exact Bn rfl ⟨rfl,by simpa using V,(fE (Z.trans F.ext) M).trans f3⟩
 by_cases c2:v.kind=2
 . have E:v.text=[97,114,114,97,121,32]++v.name++[91]++Lib.itoa v.len++[93]:=by simp [fK,c2]
   rw [E] at f ⊢;rw [AE Ab,AU c2] at Y;simp only [bB,decide_eq_true_eq] at Y;obtain ⟨ad,ae⟩:=Y;refine Ah (Ai (Aj (Ad (C1 Pf (C1 Gi (Ah (Ai (Ar (Aj (Ad (C1 V1 ?_)))))))))));refine C1 Pa (Ah (Ai (N0 (Aj (Ad (C1 V1 (C1 Pa (Ah (Ai (N0 (Aj ?_)))))))))));refine Ad (C1 V1 (C1 Pa (Ah (Ai (OX ?_)))));refine RY (fun w'=>Blk w' b1 v.cells) (.pure 0 (.pure 1 (.pure 2 (.pure 3 (.pure 4 (.fork 5 (.fork 6 (.fork 7 .done .none) .none) .none)))))) mixed Bl (by refine Al ?_;exact An) ?_;intro w2 x2 _;refine ⟨h1.ext x2,?_⟩;refine DJ rfl (by exact BM rfl) rfl (DJ rfl (by exact DN Ac rfl rfl rfl) rfl ?_);refine DJ rfl (by exact Ax Ac rfl rfl rfl (by exact fun wz hz=>by (try subst hz);exact (dP Ag (by rfl)))) rfl ?_;refine DJ rfl (by exact AS Ac rfl rfl rfl) rfl ?_;refine DJ rfl (by exact Ax Ac rfl rfl rfl (by exact fun wz hz=>by (try subst hz);exact (dP Ag (by rfl)))) rfl ?_;refine Ld rfl (Bb Bl rfl (VA v.len Ab Ab _ (ht.ext (Z.trans x2) Ab)) (fun _ _ h=>⟨_,h.1⟩)) rfl ?_ aFh Lc;rintro _ w3 ⟨⟨⟩,x3⟩;refine ⟨(h1.ext x2).ext x3,?_⟩;refine Ld rfl (CN Ac CM rfl rfl rfl rfl rfl rfl rfl rfl) rfl ?_ aFh Lc;rintro _ w4 ⟨b4,rfl,aa,ab⟩;have L:Ext w1 w4:=(x2.trans x3).trans aa.ext;refine ⟨h1.ext L,?_⟩;refine Ld rfl (Bb Bl rfl (Cj B b b4 5 l [[97,114,114,97,121,32],v.name,[91],Lib.itoa v.len,[93]] _ (O.ext L) ⟨ab⟩ Bd (by simpa [Nat.add_assoc] using f)) (fun _ _ h=>⟨_,h.1⟩)) rfl ?_ aFh Lc;rintro _ w5 ⟨⟨⟩,ac,f5⟩;refine ⟨(TB.fb (t1.ext L) f5 (by have:=N.pos;have:=h.lt;omega) Az).blk,?_⟩;refine RZ (Ae ?_)
   exact Bn rfl ⟨rfl,by simpa using ac,(fE (Z.trans L) M).trans f5⟩
 . rw [AE Ab,AE c2] at Y;cases Y
def NE (g:PG) (S:nP) (va:oA) (vc:Nat) (pa:oA) (pc:Nat) (ma:oA) (mc:Nat) (w:wD) (U:g.wf) (ht:Tabs w) (hg:prog.globals.size<=w.heap.size) (hs:g.sits S w va pa ma) :
 Calls prog 30 #[.agg (g.cells va vc pa pc ma mc).toArray] w fun e w'=>e = .returned (.tuple #[str (if g.ok then g.text else []),.int .i64 (if g.ok then 0 else 3)])/\Ext w w':=by
 have cl:=U.nv;have cm:=U.np;refine Af func30 ntmps30 rfl rfl ?_;refine eK ?_;refine DX rfl rfl rfl ?_;intro b1 w1 am t1;have h1:=am.blk;have x1:=am.ext;refine C1 Pa (C1 Pa (Ah (Ai (Aj (Aj (Ad ?_))))));refine A0 (by exact A6 Ac rfl rfl rfl (by exact fun wz hz=>by (try subst hz);exact (eC Ag)) (by rfl)) rfl ?_;refine cC rfl (Sw g S va vc pa pc ma mc _ U (hs.ext x1)) ?_;rintro _ w2 ⟨⟨⟩,x2⟩;cases hok:g.ok
 . try rw [hok]
   refine C1 Pt (Ah (Ai (Fc rfl (by rfl) ?_)));refine eK ?_;refine CC results30 rfl rfl ?_;exact ⟨rfl,x1.trans x2⟩
 try rw [hok]
 have a9:=PG.text_len g U hok;have HK:=bA hok;simp only [PG.ok,bB,decide_eq_true_eq] at hok;obtain ⟨⟨⟨⟨o1,o2⟩,o3⟩,o4⟩,o5⟩:=hok;obtain ⟨m1,m2,m3⟩:=GJ g.main U.main o5;have O3:=bA o3;clear o3;have O4:=bA o4;clear o4;simp only [PG.text,aU,aV,aX] at a9;have ax:=hs.lt;have ay:Ext w w2:=x1.trans x2;refine C1 Pt (Ah (Ai (Fp rfl (by rfl) ?_)));refine eK ?_;refine Ep CM rfl rfl ?_;intro f w3 ac t3;have br:Bld w.heap.size f [] w3:=Bld.ofTB t3 (by have:=ac.pos;have:=ay.size;omega);have bs:Ext w w3:=ay.trans ac.ext;have bb:=(t1.ext x2).ext ac.ext;have az:b1≠f:=by have:=ac.pos;have:=(t1.ext x2).blk.lt;omega
 have cn:=am.pos;have co:=ac.pos;have ck:=ay.size;have cp:=bb.blk;generalize hB:w.heap.size=B at *;have HB:=bA hB;clear hB;have bt:Below B w w3:=HB.out▸bs;have bu:=Fb.refl B f w3;clear am ac t1 h1;refine eK ?_;refine AJ (ι:=Nat) (fun j=>[(17,.int .i64 j),(16,.int .i64 g.vars.length),(15,.slice va g.vars.length vc),(4,.pointer (some ⟨f,0,none⟩)),(1,.pointer (some ⟨b1,0,none⟩))]) (fun j w'=>Fb B f w3 w'/\Bld B f (I8 fG (g.vars.take j)) w'/\j<=g.vars.length) (fun j=>g.vars.length-j) 0 sB ⟨bu,br,Ab⟩ ?_;rintro j w4 ⟨f4,ae,hj⟩;have t4:=bb.fb f4 az Az;have h4:=t4.blk;have y4:Below B w w4:=bt.trans f4.below;have bd:=Ik fG g.vars j;by_cases a0:j<g.vars.length
 . obtain ⟨kb,ko,rfl,-,L⟩:=eW (ax.vars.below y4) Ab;have rx:Row w4 ⟨kb,ko+j*3,none⟩ g.vars[j].cells:=L j g.vars[j] (aY a0);have an:g.vars[j].ok=true:=by have:=O3.out;unfold C6 at this;exact cX.1 this _ (bD a0)
   have M:=JQ fG g.vars j a0;have af:=Ik fG g.vars (j+1);rw [M] at af;simp only [fG,aU,aV,aX] at af M bd;have HC:=bA M;clear M L;generalize g.vars[j]=v at *;refine eK ?_;refine Gj CM rfl rfl ?_;intro b5 w5 ag;refine It Ac rfl rfl rfl rfl rfl rfl (ag) rfl ?_;clear ag w5;intro w5 ag;have h5:=ag.blk;have x5:=ag.ext;refine Ah (Ai (Aj (Ad ?_)));refine A0 (by exact A6 Ac rfl rfl rfl (by exact fun wz hz=>by (try subst hz);exact (eC Ag)) (by rfl)) rfl ?_;refine cC rfl (RG v an B f _ _ (ae.ext x5) (ht.below (y4.trans (Below.mono x5 ae.le)) Ab) Ab (by simp only at *;omega)) ?_;rintro _ w6 ⟨⟨⟩,be,f6⟩;refine eK ?_;refine Au (CN Ac CM rfl rfl rfl rfl rfl rfl rfl rfl) rfl ?_ aFh;rintro _ w7 ⟨b7,rfl,V,ao⟩;refine cC rfl (Cj B f b7 1 _ [[10]] _ (be.ext V.ext) ⟨ao⟩ Bd (by simp only [cI,List.flatten_nil,aU,aV,aX] at *;omega)) ?_;rintro _ w8 ⟨⟨⟩,N,f8⟩;refine Ah (Ae (Ai (Ad (C1 V7 (C1 Mv (Ah ?_))))));refine Aw (j+1) sB ⟨(f4.trans (fE x5 ae.le)).trans (f6.trans ((fE V.ext be.le).trans f8)),?_,Ab⟩ Ab;rw [HC.out];simpa using N
 obtain rfl:j=g.vars.length:=by omega
 simp only [bH] at bd ae;clear hj;refine Aj (Ad (C1 V3 (Ah (Ai (Aj (C9 (CB (AG (AG (A8 (Ai ?_)))))))))));refine Aj (Aj (Ad (C1 Pf (C1 Gi (C1 Pz (C1 Mv (Ah (Ai (Ar ?_)))))))));have bv:=Fb.refl B f w4;have bw:=t4;refine AJ (ι:=Nat) (fun j=>[(29,.int .i64 j),(28,.int .i64 g.procs.length),(27,.slice pa g.procs.length pc),(4,.pointer (some ⟨f,0,none⟩)),(1,.pointer (some ⟨b1,0,none⟩))]) (fun j w'=>Fb B f w4 w'/\Bld B f (I8 fG g.vars++I8 fH (g.procs.take j)) w'/\j<=g.procs.length) (fun j=>g.procs.length-j) 0 sB ⟨bv,by simpa [I8] using ae,Ab⟩ ?_;rintro j w5 ⟨f5,X,hj⟩;have t5:=bw.fb f5 az Az;have h5:=t5.blk;have y5:Below B w w5:=y4.trans f5.below;have bx:=Ik fH g.procs j;by_cases Z:j<g.procs.length
 . obtain ⟨kb,ko,rfl,-,L⟩:=eW (ax.procs.below y5) Ab;obtain ⟨qa,qc,ba,bc,rx,sv,sb⟩:=L j g.procs[j] (aY Z);have bf:g.procs[j].ok=true:=cX.1 O4.out _ (bD Z);have a1:=U.procs g.procs[j] (bD Z);have M:=JQ fH g.procs j Z;have af:=Ik fH g.procs (j+1);rw [M] at af;have HC:=bA M;clear M L;generalize g.procs[j]=p at *;simp only [PD.ok,bB,decide_eq_true_eq] at bf;obtain ⟨⟨⟨q1,q2⟩,q3⟩,q4⟩:=bf;obtain ⟨n1,n2,n3⟩:=GJ p.body a1.body q4;have cq:=a1.len;have Q3:=bA q3;clear q3;simp only [fH,aU,aV,aX] at af;refine eK ?_;refine Ep CM rfl rfl ?_;intro b6 w6 F t6;refine Gk Ac rfl rfl rfl rfl rfl rfl F t6 rfl ?_;clear F t6 w6;intro w6 F t6;have h6:=F.blk;have x6:=F.ext;have a2:b6≠f:=by have:=F.pos;have:=X.lt;omega
   refine eK ?_;refine Au (CN Ac CM rfl rfl rfl rfl rfl rfl rfl rfl) rfl ?_ aFh;rintro _ w7 ⟨b7,rfl,V,ao⟩;refine cC rfl (Cj B f b7 3 _ [[112,114,111,99,32],p.name,[40]] _ ((X.ext x6).ext V.ext) ⟨ao⟩ Bd (by simp only [cI,List.flatten_nil,aU,aV,aX];omega)) ?_;rintro _ w8 ⟨⟨⟩,N,f8⟩;have bz:Fb B f w5 w8:=(fE (x6.trans V.ext) X.le).trans f8;have t8:=(t6.ext V.ext).fb f8 a2 Az;have h8:=t8.blk;have bg:Bld B f (I8 fG g.vars++I8 fH (g.procs.take j)++[112,114,111,99,32]++p.name++[40]) w8:=by simpa using N
   clear N V ao F;refine Ah (Ai (Aj (Aj (Ad (C1 Pf (C1 Gi (C1 Pz (C1 Mv (Ah (Ai (Ar ?_)))))))))));have b0:=Fb.refl B f w8;refine AJ (ι:=Nat) (fun i=>[(40,.int .i64 i),(39,.int .i64 p.params.length),(38,.slice qa p.params.length qc),(29,.int .i64 j),(28,.int .i64 g.procs.length),(27,.slice (some ⟨kb,ko,none⟩) g.procs.length pc),(8,.pointer (some ⟨b6,0,none⟩)),(4,.pointer (some ⟨f,0,none⟩)),(1,.pointer (some ⟨b1,0,none⟩))]) (fun i w'=>Fb B f w8 w'/\Bld B f (I8 fG g.vars++I8 fH (g.procs.take j)++[112,114,111,99,32]++p.name++[40]++CP fK true (p.params.take i)) w'/\i<=p.params.length) (fun i=>p.params.length-i) 0 sB ⟨b0,by simpa [CP] using bg,Ab⟩ ?_;rintro i w9 ⟨f9,O,hi⟩;have t9:=t8.fb f9 a2 Az;have h9:=t9.blk;have a3:Fb B f w5 w9:=bz.trans f9;have y9:Below B w w9:=y5.trans a3.below;have b3:=IC fK p.params i;by_cases ah:i<p.params.length
   . obtain ⟨vb,vo,rfl,-,au⟩:=eW (sv.below a3.below) Ab;have rv:Row w9 ⟨vb,vo+i*3,none⟩ p.params[i].cells:=au i p.params[i] (aY ah);have an:p.params[i].ok=true:=by have:=Q3.out;unfold C6 at this;exact cX.1 this _ (bD ah)
     have a4:=KV fK p.params i ah;have a5:=IC fK p.params (i+1);rw [a4] at a5;have HM:=bA a4;clear a4 au;generalize p.params[i]=v at *;refine eK ?_;refine Ep CM rfl rfl ?_;intro a6 Y h ap;refine C1 Pa (Gk Ac rfl rfl rfl rfl rfl rfl h ap rfl ?_);clear h ap Y;intro Y h ap;have cr:=h.blk;have aq:=h.ext;have bh:a6≠f:=by have:=h.pos;have:=O.lt;omega
     have E:=O.ext aq;have ar:Below B w Y:=y9.trans (Below.mono aq O.le);by_cases a7:i=0
     . subst a7;simp only [if_true,aU,aX] at a5;refine Ah (Ai (Aj (Aj (Ad (C1 Mv (C1 V5 (Ah (Ai (C9 (As (Ai ?_)))))))))));refine Ad ?_;refine A0 (by exact A6 Ac rfl rfl rfl (by exact fun wz hz=>by (try subst hz);exact (eC Ag)) (by rfl)) rfl ?_;refine cC rfl (RG v an B f _ _ E (ht.below ar Ab) Ab (by simp only [aU,aV,aX];omega)) ?_;rintro _ ai ⟨⟨⟩,aj,ad⟩;refine Ah (Ae (Ai (Ad (C1 V7 (C1 Mv (Ah ?_))))));refine Aw (1:Nat) sB ⟨f9.trans ((fE aq O.le).trans ad),?_,Ab⟩ (by simp;omega);rw [HM.out];simpa using aj
     . simp only [AE a7,aU,aV,aX] at a5;refine eK ?_;refine Au (CN Ac CM rfl rfl rfl rfl rfl rfl rfl rfl) rfl ?_ aFh;rintro _ ai ⟨b4,rfl,aa,bi⟩;refine cC rfl (Cj B f b4 1 _ [[44,32]] _ (E.ext aa.ext) ⟨bi⟩ Bd (by simp only [cI,List.flatten_nil,aU,aV,aX];omega)) ?_;rintro _ bj ⟨⟨⟩,ab,ak⟩;have b8:=(ap.ext aa.ext).fb ak bh Az;have ct:=b8.blk;have ca:Below B w bj:=ar.trans ((Below.mono aa.ext E.le).trans ak.below);refine Ah (Ai (Ad ?_));refine A0 (by exact A6 Ac rfl rfl rfl (by exact fun wz hz=>by (try subst hz);exact (eC Ag)) (by rfl)) rfl ?_;refine cC rfl (RG v an B f _ _ ab (ht.below ca Ab) Ab (by simp only [cI,List.flatten_nil,aU,aV,aX];omega)) ?_;rintro _ cb ⟨⟨⟩,bk,cc⟩;refine Ah (Ae (Ai (Ad (C1 V7 (C1 Mv (Ah ?_))))));refine Aw (i+1) sB ⟨f9.trans ((fE aq O.le).trans ((fE aa.ext E.le).trans (ak.trans cc))),?_,Ab⟩ Ab;rw [HM.out];simpa [a7] using bk
   . obtain rfl:i=p.params.length:=by omega
     simp only [bH] at b3 O;refine eK ?_;refine Au (CN Ac CM rfl rfl rfl rfl rfl rfl rfl rfl) rfl ?_ aFh;rintro _ Y ⟨a6,rfl,h,bl⟩;refine cC rfl (Cj B f a6 1 _ [[41]] _ (O.ext h.ext) ⟨bl⟩ Bd (by simp only [cI,List.flatten_nil,aU,aV,aX];omega)) ?_;rintro _ ai ⟨⟨⟩,aj,ad⟩;have cd:=(t9.ext h.ext).fb ad a2 Az;have cu:=cd.blk;have al:Fb B f w5 ai:=a3.trans ((fE h.ext O.le).trans ad);have ce:Below B w ai:=y5.trans al.below;have a8:=B8 p.body 0;simp only [Nat.zero_add] at a8;refine Ah (Ai (Aj (Ad (C1 Pf ?_))));refine A0 (by exact C5 Ac rfl rfl rfl (by exact fun wz hz=>by (try subst hz);assumption) (by rfl)) rfl ?_;refine cC rfl (Ml p.body (SA p.body a1.body n2) B f _ _ ba bc 0 aj (ht.below ce Ab) Ab (sits.below sb al.below) Ab (by simp only [cI,List.flatten_nil,aU,aV,aX] at *;omega)) ?_;rintro _ bj ⟨⟨⟩,ab,ak⟩;refine eK ?_;refine Au (CN Ac CM rfl rfl rfl rfl rfl rfl rfl rfl) rfl ?_ aFh;rintro _ cb ⟨cf,rfl,av,bm⟩;refine cC rfl (Cj B f cf 1 _ [[10]] _ (ab.ext av.ext) ⟨bm⟩ Bd (by simp only [cI,List.flatten_nil,aU,aV,aX] at *;omega)) ?_;rintro _ cv ⟨⟨⟩,bn,cg⟩;refine Ah (Ae (Ai (Ad (C1 V7 (C1 Mv (Ah ?_))))));refine Aw (j+1) sB ⟨f5.trans (al.trans (ak.trans ((fE av.ext ab.le).trans cg))),?_,Ab⟩ Ab;rw [HC.out]
     simpa [fH,BB,BX] using bn
 . obtain rfl:j=g.procs.length:=by omega
   simp only [bH] at bx X;refine eK ?_;refine Au (CN Ac CM rfl rfl rfl rfl rfl rfl rfl rfl) rfl ?_ aFh;rintro _ w6 ⟨b6,rfl,F,ch⟩;refine cC rfl (Cj B f b6 1 _ [[109,97,105,110]] _ (X.ext F.ext) ⟨ch⟩ Bd (by simp only [cI,List.flatten_nil,aU,aV,aX];omega)) ?_;rintro _ w7 ⟨⟨⟩,bo,f7⟩;have bp:Fb B f w5 w7:=(fE F.ext X.le).trans f7;have t7:=t5.fb bp az Az;have h7:=t7.blk;have y7:Below B w w7:=y5.trans bp.below;have a8:=B8 g.main 0;simp only [Nat.zero_add] at a8;refine Ah (Ai (Aj (Ad (C1 Pf ?_))));refine A0 (by exact C5 Ac rfl rfl rfl (by exact fun wz hz=>by (try subst hz);assumption) (by rfl)) rfl ?_;refine cC rfl (Ml g.main (SA g.main U.main m2) B f _ _ ma mc 0 bo (ht.below y7 Ab) Ab (sits.below ax.main y7) Ab (by simp only [cI,List.flatten_nil,aU,aV,aX] at *;omega)) ?_;rintro _ w8 ⟨⟨⟩,N,f8⟩;refine eK ?_;refine Au (CN Ac CM rfl rfl rfl rfl rfl rfl rfl rfl) rfl ?_ aFh;rintro _ w9 ⟨b9,rfl,bq,ci⟩;refine cC rfl (Cj B f b9 1 _ [[10]] _ (N.ext bq.ext) ⟨ci⟩ Bd (by simp only [cI,List.flatten_nil,aU,aV,aX] at *;omega)) ?_;rintro _ Y ⟨⟨⟩,E,cj⟩;have ar:Below B w Y:=y7.trans (f8.below.trans ((Below.mono bq.ext N.le).trans cj.below))
   have aw:Bld B f g.text Y:=by simpa [PG.text,BB,BX] using E
   clear E N bo X;refine eK ?_;refine cC rfl (Mf 113 B f g.text _ aw.is aw.le) ?_;rintro _ ai ⟨⟨⟩,-,ad⟩;refine eK ?_;refine CC results30 rfl rfl ?_;refine ⟨rfl,?_⟩;unfold Ext;rw [HB.out];exact ar.trans ad.below
def EX.text (e:EX):lB:=KY e (Lib.countByte e.g.text 10:Nat)++e.g.text
def Ec (l:List EX):lB:=l.flatMap EX.text
def QA (l:List EX):Prop:= ∃i,i<l.length /\ ∃e,l[i]? = some e/\Fi (l.take i) e.name=true
open Classical in
noncomputable def Dj (l:List EX):lB×Int:=
 if 100<l.length then ([],5) else if ¬ ∀e∈l,e.valid then ([],3) else if QA l then ([],22) else if 65536<(Ec l).length then ([],5) else (Ec l,0)
def K0 {l:List EX} (h:100<l.length):Dj l=([],5):=by unfold Dj;rw [AU h]
def MA {l:List EX} (h : ¬ 100<l.length) (e:EX) (f:e∈l) (E : ¬e.valid):Dj l=([],3):=by
 unfold Dj;rw [AE h,AU (fun h=>E (h e f))]
def MB {l:List EX} (h : ¬ 100<l.length) (f : ∀e∈l,e.valid) (E:QA l):Dj l=([],22):=by
 unfold Dj;rw [AE h,AE (fun h=>h f),AU E]
def JR {l:List EX} (h : ¬ 100<l.length) (f : ∀e∈l,e.valid) (E : ¬QA l) (F:65536<(Ec l).length):Dj l=([],5):=by
 unfold Dj;rw [AE h,AE (fun h=>h f),AE E,AU F]
def Ks {l:List EX} (h : ¬ 100<l.length) (f : ∀e∈l,e.valid) (E : ¬QA l) (F : ¬ 65536<(Ec l).length):Dj l=(Ec l,0):=by
 unfold Dj;rw [AE h,AE (fun h=>h f),AE E,AE F]
def MC {vs:List VD} {b:BoxV} (h:(FN vs b).2=0):b.ok:=by
 unfold FN at h;split at h
 . rename_i h1;exact h1.1
 . cases h
def EX.valid_rng {e:EX} (h:e.valid):e.rng:=by
 obtain ⟨⟨-,h1,F⟩,-,-,f,-⟩:=h;have E:=MC f;unfold BoxV.ok at E;exact ⟨Ab,Ab,Ab,Ab,Ab⟩
def EX.valid_name {e:EX} (h:e.valid):e.name.length<=16:=Cg h.1.1
def NF (e:EX) (n:Int) (h:e.rng) (E:0<=n/\n<=9223372036854775807):(KY e n).length<=e.name.length+1000:=by
 have h1:=Kq (Dn e n) (fun p f=>⟨My e n p f,Ko e n h E p f⟩);have F:=Mz (Dn e n);rw [IF] at h1 F;unfold KY KX;generalize (Dn e n).flatMap (fun p=>[p.1,Lib.itoa p.2])=r at *;rw [aU,List.cons_append,Lib.join_length];unfold Lib.lens at h1 ⊢;simp only [List.cons_append,List.nil_append,aV,aX,List.map_cons,List.sum_cons];omega
def Io (s:lB):Lib.countByte s 10<=s.length:=by
 unfold Lib.countByte
 first|exact List.countP_le_length|exact List.count_le_length|simpa using List.countP_le_length
def EX.text_le {e:EX} (f:e.wf) (h:e.valid):e.text.length<=1000000002000:=by
 have h1:=PG.text_len e.g f.g h.2.1.1;have E:=Io e.g.text;have F:=NF e (Lib.countByte e.g.text 10:Nat) (EX.valid_rng h) ⟨Ab,Ab⟩;have L:=EX.valid_name h;unfold EX.text;rw [aU];omega
def NG {l:List EX} {j:Nat} (h:j<l.length):Ec (l.take (j+1))=Ec (l.take j)++l[j].text:=by
 unfold Ec;rw [bE h,List.flatMap_append];simp
def XC {l:List EX} {j:Nat}:(Ec (l.take j)).length<=(Ec l).length:=by
 conv=>rhs;rw [<-cL j l]
 unfold Ec;rw [List.flatMap_append,aU];omega
def YY (b:Nat) (l:lB) (H:Nat) (w:wD) (h:BdF w b l H) :
 Calls prog 34 #[.pointer (some ⟨b,0,none⟩)] w fun e w'=>e = .returned (.int .i64 l.length)/\w'=w:=
 (Tryz.Builder_Len_f b b (Lib.byteCells l) w h.is).mono fun e w' ⟨h1,h2⟩=>⟨by rw [h1,Lib.byteCells_length],h2⟩
attribute [local irreducible] Go.Calls
def XD {w:wD} {b:Nat} (h:TB w b [.pointer none,.slice none 0 0] 69):BdF w b [] w.heap.size:=by
 refine VE (bC ⟨bJ _,.slice none 0 0,h,⟨by simp [Lib.byteCells],bC ⟨rfl,rfl⟩⟩,by simp [cV]⟩)
set_option maxHeartbeats 8000000 in
def NH (l:List EX) (hw : ∀e∈l,e.wf) (S:nP) (a:oA) (c:Nat) (hl:l.length<=1000000) (hc:l.length<=c) (w:wD) (f:EXs S w l a) (E:TabsF w) :
 Calls prog 15 #[.slice a l.length c] w fun r w'=>r = .returned (.tuple #[str (Dj l).1,.int .i64 (Dj l).2])/\Ext w w':=by
 have X:=dI w;have f:=f.ltA;have b9:=E.g;have HW:=bA hw;clear hw;by_cases aa:100<l.length
 . rw [K0 aa];refine Af func15 ntmps15 rfl rfl ?_;refine eK ?_;refine xT ?_;all_goals exact ⟨rfl,X⟩
 have ca:l.length<=100:=by omega
 have HB:=bA (fun e he Z=>MA aa e he Z);have HD:=bA (fun Z hd=>MB aa Z hd);have HG:=bA (fun Z hd hc=>JR aa Z hd hc);have HO:=bA (fun Z hd hc=>Ks aa Z hd hc);refine Af func15 ntmps15 rfl rfl ?_;refine cS (C1 Pa (C1 Pa (cT (Aj (cS (C1 Mv (C1 Pz (C1 V5 (cT (C9 (As ?_)))))))))));refine Ai (Aj (cS (C1 Mv (C1 Pz (C1 Mv (cT ?_))))));refine Ar ?_;refine AJ (ι:=Nat) (fun j=>[(0,.slice a l.length c),(16,.slice a l.length c),(17,.int .i64 l.length),(18,.int .i64 j)])
  (fun j w'=>j<=l.length/\(∀e∈l.take j,e.valid)/\EXs (· < w.heap.size) w' l a/\TabsF w'/\Ext w w') (fun j=>l.length-j) 0 sB ⟨bI _,(fun e he=>by simp at he),f,E,X⟩ ?_
 clear f E X;rintro j w1 ⟨hj,hq,f,E,X⟩;have hz:=X.size;have HQ:=bA hq;clear hq;by_cases U:j<l.length
 . obtain ⟨kb,ko,rfl,-,hk⟩:=eW f Ab;obtain ⟨va,vc,pa,pc,ma,mc,M,L⟩:=hk j _ (aY U);have hm:=bD U;have ac:=HW.out _ hm;have hn:l[j].valid -> ∀e∈l.take (j+1),e.valid:=fun h e he=>by
    rw [bE U,List.mem_append,dG] at he;rcases he with he|rfl
    . exact HQ.out e he
    . exact h
   have F:=HB.out l[j] hm;clear hk hm;generalize l[j]=e at *;have HV:=bA (fun w1 h=>IE e ac (· < w.heap.size) va vc pa pc ma mc w1 h);clear ac;by_cases Z:e.valid
   . rw [decide_eq_true Z] at HV;have HN:=bA (hn Z);clear hn Z F;unfold eP at M HV;refine eK ?_;refine xA [_,_,_,_,_,_,_,_,_,_,_,_] ?_;intro cb cc ba;refine eI [_,_,_,_,_,_,_,_,_,_,_,_] ba ?_;intro cd ap bb ce cf;revert E X f M L;refine eE bb ?_;intro E X f M L;refine cN (Bm [_,_,_,_,_,_,_,_,_,_,_,_] Ac rfl rfl rfl ap rfl rfl rfl (cC rfl (HV.out _ Ag) ?_));rintro _ bq ⟨⟨⟩,bc⟩;revert ap E X f M L;refine eY bc ?_;intro br ap E X f M L;refine C1 Pt (cT (Da rfl (As (Ae (Ai (Ad (C1 V7 (C1 Mv (Ah ?_)))))))));exact Aw (j+1) sB ⟨Ab,HN.out,Ag,Ag,X⟩ Ab
   . rw [decide_eq_false Z] at HV;rw [F Z];clear hn Z F;unfold eP at M HV;refine eK ?_;refine xA [_,_,_,_,_,_,_,_,_,_,_,_] ?_;intro cg ch bd;refine eI [_,_,_,_,_,_,_,_,_,_,_,_] bd ?_;intro ci aq be cj ck;revert E X f M L;refine eE be ?_;intro E X f M L;refine cN (Bm [_,_,_,_,_,_,_,_,_,_,_,_] Ac rfl rfl rfl aq rfl rfl rfl (cC rfl (HV.out _ Ag) ?_));rintro _ bs ⟨⟨⟩,bf⟩;revert aq E X f M L;refine eY bf ?_;intro bt aq E X f M L;refine eK ?_;refine xT ?_;exact ⟨rfl,X⟩
 obtain rfl:j=l.length:=by omega
 have ak : ∀e∈l,e.valid:=by have:=HQ.out;rwa [bH] at this
 clear HQ HB;have HA:=bA ak;clear ak;refine cS (C1 V3 (cT (Aj (C9 (CB (AG (AG (A8 (Ai (Aj (cS ?_)))))))))));refine C1 Mv (C1 Pz (C1 Mv (cT ?_)));refine Ar ?_;refine AJ (ι:=Nat) (fun j=>[(0,.slice a l.length c),(26,.slice a l.length c),(27,.int .i64 l.length),(28,.int .i64 j)])
  (fun j w'=>j<=l.length/\(∀i,i<j -> ∀e,l[i]? = some e->Fi (l.take i) e.name=false)/\EXs (· < w.heap.size) w' l a/\TabsF w'/\Ext w w') (fun j=>l.length-j) 0 sB ⟨bI _,(fun i h=>absurd h Ab),f,E,X⟩ ?_
 clear f E X;rintro j w2 ⟨hj,hq,f,E,X⟩;have cl:=X.size;have HQ:=bA hq;clear hq;by_cases U:j<l.length
 . obtain ⟨kb,ko,rfl,-,hk⟩:=eW f Ab;obtain ⟨va,vc,pa,pc,ma,mc,M,L⟩:=hk j _ (aY U);have HH:Hid (∀s w1,EXs (· < w.heap.size) w1 l (some ⟨kb,ko,none⟩)->Calls prog 29 #[.slice (some ⟨kb,ko,none⟩) j c,str s] w1 fun r w'=>r = .returned (.bool (Fi (l.take j) s))/\Ext w1 w'):=bA fun s w1 h=>by
    have:=Yh (l.take j) (by rw [cH];omega) s _ _ c w1 (h.take j);rwa [cH,Nat.min_eq_left hj] at this
   have hn:Fi (l.take j) l[j].name=false -> ∀i,i<j+1 -> ∀e,l[i]? = some e->Fi (l.take i) e.name=false:=fun h i hi e he=>by
    rcases bQ i j with h1|h1
    . exact HQ.out i h1 e he
    . obtain rfl:i=j:=by omega
      rw [aY U] at he;rw [<-bO he];exact h
   have hd:Fi (l.take j) l[j].name=true->QA l:=fun h=>⟨j,U,_,aY U,h⟩
   clear hk;generalize l[j]=e at *;unfold eP at M;have HH:=bA (HH.out e.name);generalize Fi (l.take j) e.name=q at *;generalize e.name=t at *
   focus
    refine eK ?_;refine eA [_,_,_,_,_,_,_,_,_,_,_,_] ?_;intro cm cn bg bh co cp;revert E X f L M;refine eE bh ?_;intro E X f L M;refine C1 Pa (eS [_,_,_,_,_,_,_,_,_,_,_,_] bg ?_);intro av ab al bu;revert E X f L;refine eF al ?_;intro E X f L;clear M al;refine eK ?_;refine AC (fun wz=>Ext av wz) 5 (.pure 0 (.pure 1 (.pure 2 (.pure 3 (.pure 4 .tail))))) mixed Bl (Aa (Al (Aa (Aa (Al (Aa An)))))) ?_;intro aw am _;have ad:(fun wz=>Ext av wz) aw:=am;simp only at ad;have ag:=ab;have ax:=E;have ay:=f;have az:=L;revert ab E X f L;refine eY am ?_;intro bv ab E X f L;refine ⟨ad,?_⟩;refine Tq rfl Mv (Tq rfl Mv (Tq rfl (Jw Ac rfl rfl rfl rfl rfl Ab) (Tq rfl Pg (Tq rfl (Db ag) ?_))));refine AF rfl (cC rfl (HH.out _ Ag) ?_);rintro _ bw ⟨⟨⟩,a0⟩;revert ab E X f L;refine eY a0 ?_;intro bx ab E X f L;refine cT ?_;refine CV rfl (fun a1=>?_) (fun a1=>?_);refine eK ?_;refine xT ?_;rotate_left;refine As (Ae (Ai (Ad (C1 V7 (C1 Mv (Ah ?_))))));rotate_left
   . rw [HD.out HA.out (hd Ag)];exact ⟨rfl,X⟩
   . exact Aw (j+1) sB ⟨Ab,hn Ag,Ag,Ag,X⟩ Ab
 obtain rfl:j=l.length:=by omega
 have a2 : ¬QA l:=fun ⟨i,hi,e,he,h⟩=>by rw [HQ.out i hi e he] at h;cases h
 clear HQ HD;have HN:=bA a2;clear a2;refine eK ?_;refine Ep CM rfl rfl ?_;intro ah bi ar bj;have bk:=ar.ext;have cq:=ar.pos;have cr:=ar.size;revert f E X;refine eE bk ?_;intro f E X;refine cT (Aj (cS (C1 Mv (C1 Pz (C1 Mv (cT ?_))))));have F:=XD bj;refine Ar ?_;refine AJ (ι:=Nat×Nat) (fun y=>[(8,.pointer (some ⟨ah,0,none⟩)),(40,.slice a l.length c),(41,.int .i64 l.length),(42,.int .i64 y.1)])
  (fun y w'=>y.1<=l.length/\BdF w' ah (Ec (l.take y.1)) y.2/\y.2<=w'.heap.size/\(Ec (l.take y.1)).length<=65536/\EXs (· < w.heap.size) w' l a/\TabsF w'/\Ext w w'/\ah<w'.heap.size) (fun y=>l.length-y.1) (0,bi.heap.size) sB ⟨bI _,F,bJ _,by simp [Ec],f,E,X,Ab⟩ ?_
 clear F f E X;rintro ⟨j,H⟩ w3 ⟨hj,F,hH,a3,f,E,X,ct⟩;simp only at hj F hH a3;have cu:=X.size;have cv:=E.g;refine CW.sub (m:=[(8,.pointer (some ⟨ah,0,none⟩)),(40,.slice a l.length c),(41,.int .i64 l.length),(42,.int .i64 j)]) ?_ sB;by_cases U:j<l.length
 . obtain ⟨kb,ko,rfl,-,hk⟩:=eW f Ab;obtain ⟨va,vc,pa,pc,ma,mc,M,L⟩:=hk j _ (aY U);have hm:=bD U;have Z:=HA.out _ hm;have ac:=HW.out _ hm;have ai:=NG U;have a4:(Ec (l.take (j+1))).length<=(Ec l).length:=XC;clear hk hm;generalize l[j]=e at *;have a5:=EX.text_le ac Z;have HP:=bA (fun (w1:wD) (h1:TabsF w1) h2=>NE e.g (· < w.heap.size) va vc pa pc ma mc w1 ac.g h1.t h1.g h2);have aj:e.g.ok=true:=Z.2.1.1;rw [AU aj,AU aj] at HP;have cw:=Io e.g.text;have cx:=PG.text_len e.g ac.g aj;have Y:=L.g;have HH:=bA (fun w1 h=>VP e (Lib.countByte e.g.text 10:Nat) (EX.valid_rng Z) ⟨Ab,Ab⟩ (by have:=EX.valid_name Z;omega) va vc pa pc ma mc w1 h);rw [ai] at a4;unfold EX.text at a4 a5 ai;clear aj Z ac;generalize KY e (Lib.countByte e.g.text 10:Nat)=hd at *;generalize Ec (l.take j)=a6 at *;unfold eP at M HH;generalize e.g.text=tx at *;have cy:hd.length+tx.length<=1000000002000:=by rw [<-aU];exact a5
   have bl:a6.length+(hd++tx).length<=140737488355328:=by omega
   focus
    refine eK ?_;refine Ep CM rfl rfl ?_;intro cz c0 ae V;refine Gk Ac rfl rfl rfl rfl rfl rfl ae V rfl ?_;intro c1 ae V;have bm:=ae.ext;have c2:=ae.pos;have c3:=ae.size;revert E X f M L Y F;refine eE bm ?_;intro E X f M L Y F;refine eK ?_;refine Bm [_,_,_,_,_,_] Ac rfl rfl rfl (TB.blk V) rfl rfl rfl (cC rfl (HP.out _ Ag Ag) ?_);rintro _ an ⟨⟨⟩,bn⟩;revert V E X f M L Y F;refine eY bn ?_;intro bz V E X f M L Y F;refine eK ?_;refine AC (fun wz=>Ext an wz) 5 (.pure 0 (.pure 1 (.pure 4 (.fork 2 (.fork 3 .tail .none) .none)))) mixed Bl (Aa (Al (Aa (Aa (Al (Aa An)))))) ?_;intro a7 ao _;have N:(fun wz=>Ext an wz) a7:=ao;simp only at N;have au:=V;have ax:=E;have ay:=f;have b0:=M;have az:=L;have bo:=Y;have bp:=F;revert V E X f M L Y F;refine eY ao ?_;intro b1 V E X f M L Y F;refine ⟨N,?_⟩;refine Tq rfl (xL [_,_,_,_,_,_,_,_,_,_,_,_] (fun wz hz=>(Blk.ext (TB.blk au) hz))) (Tq rfl Mv (Tq rfl Mv ?_));refine tC rfl rfl (ND _ _) ?_;rintro _ b2 ⟨⟨⟩,rfl⟩;refine ⟨N,?_⟩;refine tC rfl rfl (HH.out _ Ag) ?_;rintro _ b3 ⟨⟨⟩,a8⟩;revert N V E X f M L Y F;refine eY a8 ?_;intro b4 N V E X f M L Y F;refine ⟨N,?_⟩;refine AF rfl (C1 (At rfl rfl Ab) (cC rfl (VF _ _ _ _ _ Ag bl) ?_));rintro _ b5 ⟨⟨⟩,⟨b6,O⟩⟩;have b7:=O.size;have V:=TB.fr V O (fun e=>e.elim (fun e=>by omega) (fun e=>Xp Ag Az e.2));have E:=TabsF.fr E O (fun k hk=>hk.elim (fun e=>by omega) (fun e=>by have:=e.1;omega));have X:=eX X O (fun k hk=>hk.elim (fun e=>by omega) (fun e=>by have:=e.1;omega));have f:=EXs.fr f O (fun b hb hT=>hT.elim (fun e=>by (try dsimp only at hb);omega) (fun e=>by have:=e.1;(try dsimp only at hb);omega));clear M;have L:=EX.sits.fr L O (fun b hb hT=>hT.elim (fun e=>by (try dsimp only at hb);omega) (fun e=>by have:=e.1;(try dsimp only at hb);omega));have Y:=PG.sits.fr Y O (fun b hb hT=>hT.elim (fun e=>by (try dsimp only at hb);omega) (fun e=>by have:=e.1;(try dsimp only at hb);omega));clear F O;refine cN (cC rfl (YY _ _ _ _ Ag) ?_);rintro _ b8 ⟨⟨⟩,rfl⟩;refine eK ?_
    refine AH rfl (fun a9=>?_) (fun a9=>?_);refine eK ?_;refine xT ?_;rotate_left;refine As (Ae (Ai (Ad (C1 V7 (C1 Mv (Ah ?_))))));rotate_left
   . rw [HG.out HA.out HN.out Ab];exact ⟨rfl,X⟩
   . exact Aw (j+1,_) sB ⟨by (try dsimp only);omega,by dsimp only;rw [ai];assumption,bJ _,by dsimp only;rw [ai];omega,Ag,Ag,X,Ab⟩ (by (try dsimp only);omega)
 obtain rfl:j=l.length:=by omega
 rw [bH] at F a3;rw [HO.out HA.out HN.out Ab];clear HO HG HA HN;generalize Ec l=a6 at *;refine eK ?_;refine cC rfl (TU _ _ _ _ Ag) ?_;rintro _ c4 ⟨⟨⟩,af⟩;have c5:=af.size;have f:=f.fr af Ab;have E:=TabsF.fr E af (fun k hk=>hk.elim (fun e=>by omega) (fun e=>by have:=e.1;omega));have X:=eX X af (fun k hk=>hk.elim (fun e=>by omega) (fun e=>by have:=e.1;omega));clear F af;refine eK ?_;refine xT ?_;exact ⟨rfl,X⟩
end Bk
namespace Bk
open Go Go.RowKit Go.Proofs
def Ch (s:lB):List lB:=Lib.split s [32]
def NI (f:lB) : ∀(k:Nat) (s x:lB),x∈Lib.splitK f 0 k s->x.length<=s.length
 | 0,s,x,h=>by simp only [Lib.splitK,dG] at h;subst h;exact bJ _
 | k+1,s,x,h=>by
  rw [Lib.splitK] at h;split at h
  . simp only [dG] at h;subst h;exact bJ _
  . rcases bR.1 h with h|h
    . rw [h,cH];omega
    . have:=NI f k _ x h;rw [List.length_drop] at this;omega
def VR {s x:lB} (h:x∈Ch s):x.length<=s.length:=NI _ _ s x h
def SplitR (s:lB) (w:wD):Ending->wD->Prop:=fun e w'=> ∃b,e = .returned (.slice (some ⟨b,0,none⟩) (Ch s).length (Ch s).length)/\Blk w' b ((Ch s).map str)/\w.heap.size<=b/\b<w'.heap.size/\Ext w w'
def SplitR.ret {s:lB} {w w':wD} {e:Ending} (h:SplitR s w e w') : ∃v,e = .returned v:=by
 obtain ⟨_,h,-⟩:=h;exact ⟨_,h⟩
def XE (s:lB) (N:s.length<=1000000) (w:wD) (h:Errs2 w):Calls prog 110 #[str s,str [32]] w (SplitR s w):=by
 obtain ⟨-,-,m,F⟩:=h;refine (Tryz.strings_Split ⟨s.toArray⟩ ⟨#[32]⟩ m w (by rw [Ee];omega) F Az).mono ?_;rintro e w' ⟨rfl,rfl⟩;have L:(Ch s).length=Lib.countB ⟨s.toArray⟩ ⟨#[32]⟩+1:=by
  have h1:=Lib.splitB_all ⟨#[32]⟩ Az 0 _ ⟨s.toArray⟩ rfl;have f:=congrArg List.length (Lib.splitB_data ⟨#[32]⟩ 0 (Lib.countB ⟨s.toArray⟩ ⟨#[32]⟩) ⟨s.toArray⟩);rw [List.length_map,h1] at f;exact f.symm
 have M:(Lib.splitB ⟨#[32]⟩ 0 (Lib.countB ⟨s.toArray⟩ ⟨#[32]⟩) ⟨s.toArray⟩).map Value.string=(Ch s).map str:=by
  have f:=Lib.splitB_data ⟨#[32]⟩ 0 (Lib.countB ⟨s.toArray⟩ ⟨#[32]⟩) ⟨s.toArray⟩;have E:=congrArg (List.map str) f;rw [List.map_map] at E;exact E
 refine ⟨w.heap.size,by rw [L],⟨9,?_⟩,bJ _,?_,(dI w).alloc _⟩
 . rw [<-M];simp only [World.alloc,Array.getElem?_push_size]
 . show w.heap.size<(w.heap.push _).size;rw [Array.size_push];omega
def E2 (s:lB):lB×lB×Bool:=Lib.cut s [10]
def ZL (s:lB) (E:s.length<=1000000) (w:wD) (h:Errs2 w):Calls prog 69 #[str s,str [10]] w fun e w'=>e = .returned (.tuple #[str (E2 s).1,str (E2 s).2.1,.bool (E2 s).2.2])/\Ext w w':=by
 obtain ⟨-,-,m,f⟩:=h;refine (Tryz.strings_Cut ⟨s.toArray⟩ ⟨#[10]⟩ m w (by rw [Ee];omega) f).mono ?_;rintro e w' ⟨rfl,n,rfl⟩;exact ⟨rfl,Tl w n⟩
def hwords:List lB:=[[112,111,105,110,116,115],[102,117,101,108],[118,97,108,117,101],[108,101,110,103,116,104],[105,110,112,117,116],[108,105,110,101,115]]
def Dy (ws:List lB) (i:Nat):Int:=(Hm (ws.getD (3+2*i) [])).1
def QB (ws:List lB) (i:Nat):Prop:=ws.getD (2+2*i) []=hwords.getD i []/\(Hm (ws.getD (3+2*i) [])).2=true
instance (ws:List lB) (i:Nat):Decidable (QB ws i):=by unfold QB;infer_instance
def QC (ws:List lB):Prop:=ws.length=14/\ws.getD 0 []=[101,120,101,114,99,105,115,101]/\A9 (ws.getD 1 [])=true /\ ∀i,i<6->QB ws i
instance (ws:List lB):Decidable (QC ws):=by unfold QC;infer_instance
def NJ (ws:List lB) (j:Nat):EX:=⟨ws.getD 1 [],if 0<j then Dy ws 0 else 0,if 1<j then Dy ws 1 else 0,⟨if 2<j then Dy ws 2 else 0,if 3<j then Dy ws 3 else 0,if 4<j then Dy ws 4 else 0⟩,Vq⟩
def Yi (ws:List lB):EX:=NJ ws 6
def zeroEX:EX:=⟨[],0,0,⟨0,0,0⟩,Vq⟩
def EX.cells0 (e:EX):lV:=e.cells none 0 none 0 none 0
def QD (ws:List lB):Value:=if QC ws then .tuple #[.agg (Yi ws).cells0.toArray,.int .i64 (Dy ws 5),.bool true] else .tuple #[.agg zeroEX.cells0.toArray,.int .i64 0,.bool false]
def T5 (f:List lB) (j:Nat) (h:j<5):(NJ f j).cells0.set (1+j) (.int .i64 (Dy f j))=(NJ f (j+1)).cells0:=by
 rcases (show j=0\/j=1\/j=2\/j=3\/j=4 by omega) with rfl|rfl|rfl|rfl|rfl<;>rfl
def RH (s:lB):0<=(Hm s).1/\(Hm s).1<=1000000000:=by
 unfold Hm;split
 . split
   . rename_i h;exact h.1
   . simp
 . simp
def T6 (f E:Nat) (w:wD) (g:Nat) (F:Blk w g (E1 f E)) (j:Nat) (L:j<5):Row w ⟨g,0+j*2,none⟩ [str (hwords.getD j []),.pointer (some ⟨f,1+j,none⟩)]:=by
 have h:=F.row.sub (j*2) 2;rcases (show j=0\/j=1\/j=2\/j=3\/j=4 by omega) with rfl|rfl|rfl|rfl|rfl<;>exact h
def RI (h f:Nat) (w:wD) (g:Nat) (E:Blk w g (E1 h f)):Row w ⟨g,0+5*2,none⟩ [str (hwords.getD 5 []),.pointer (some ⟨f,0,none⟩)]:=E.row.sub (5*2) 2
def K1 {P:Program} {m:Nat} {l:Sl} {tab:Tab} {ty:TypeId} {w:wD} {x y:Operand} {t g i:Nat} {s:Sk} {vs:lV} {u:Int} (TT:TabOk P tab) (ht:AD tab t=some (s,1)) (hx:ev l x=some (.pointer (some ⟨g,i,none⟩))) (hy:ev l y=some (.int .i64 u))
 (hb:Blk w g vs) (hi:i<vs.length) :
 Cr P m l (.store t x y) ty w (Oa fun w'=>Blk w' g (vs.set i (.int .i64 u))/\Fr (· = g) w w'/\w'.heap.size=w.heap.size):=by
 have hd:=GO (P:=P) (n:=m) (l:=l) (ty:=ty) (us:=[.int .i64 u]) TT ht hx hy rfl rfl rfl hb (by rw [Nat.ble_eq];simp;omega);unfold Cr at hd ⊢;intro a dst pos after gd next Q ha hn b;refine hd a dst pos after gd next Q ha (fun v' w' h=>h.elim) (fun w' hP=>b w' ⟨?_,hP.fr,hP.size⟩);have h1:=hP.blk;simpa [Bi] using h1
attribute [local irreducible] Go.Calls
def GK {w:wD} {b:Nat} {f:List lB} (h:Blk w b (f.map str)) (i:Nat) (F:i<f.length):Row w ⟨b,i,none⟩ [str (f.getD i [])]:=fun k v E=>by
 match k,E with
 | 0,E=>
  simp only [List.getElem?_cons_zero,bK] at E;subst E;have:=h.row.at (i:=i) (v:=str (f.getD i [])) (by rw [List.getElem?_map,aY F,dC,aY F];rfl);simpa [cU] using this
def SG {s:lB} (i:Nat):((Ch s).getD i []).length<=s.length:=by
 rw [dC];cases h:(Ch s)[i]? with
 | none=>simp
 | some x=>exact VR (List.mem_of_getElem? h)
set_option maxHeartbeats 8000000 in
def OJ (s:List UInt8) (hs:s.length<=1000000) (w:World) (F:Errs2 w) (E:TabsF w) :
 Calls prog 70 #[str s] w fun r w'=>r = .returned (QD (Ch s))/\Ext w w':=by
 have X:=dI w;have c3:=E.g;have HF:=bA (fun eb lb w1=>Qw eb lb w1);have HS:=bA (fun w1 h=>XE s hs w1 h);have HL:=bA (fun i=>SG (s:=s) i)
 have c4:(Ch s).length<=1000002:=by
  have h1:(Ch s).length<=Lib.count s [32]+1:=by
   have:=congrArg List.length (Lib.splitB_data ⟨#[32]⟩ 0 (Lib.count s [32]) ⟨s.toArray⟩);have h2:=Lib.splitB_length_le ⟨#[32]⟩ 0 (Lib.count s [32]) ⟨s.toArray⟩;rw [List.length_map] at this;have h3:(Ch s).length=(Lib.splitB ⟨#[32]⟩ 0 (Lib.count s [32]) ⟨s.toArray⟩).length:=this.symm
   omega
  have h4:Lib.count s [32]<=s.length:=by rw [Lib.count_one];exact List.count_le_length
  omega
 refine Af func70 ntmps70 rfl rfl ?_
 refine cS ?_;refine eA [_,_,_,_,_,_,_,_,_,_,_,_] ?_;intro b1 w2 h5 x6 p7 z8;revert F E X;refine eE x6 ?_;intro F E X;clear x6;refine C1 Pa (C1 Pa (cN ?_));refine eA [_,_,_,_,_,_,_,_,_,_,_,_] ?_;intro b9 c5 U bo c6 c7;revert h5 F E X;refine eE bo ?_;intro h5 F E X;clear bo;refine cN ?_;refine Gn [_] CM rfl rfl ?_;intro ax cg bp;refine eI [_] bp ?_;clear bp cg;intro c8 V bq c9 da;revert U h5 F E X;refine eE bq ?_;intro U h5 F E X;clear bq;refine cN ?_;refine eQ rfl (HF.out _ _ _) ?_;rintro _ db ⟨ay,⟨⟨⟩,⟨Y,⟨dc,bi⟩⟩⟩⟩;have dd:=bi.size;revert V U h5 F E X;refine eE bi ?_;intro V U h5 F E X;clear bi;refine C1 Pa (cN (C1 Mv ?_));refine eQ rfl (HS.out _ Ag) ?_;rintro _ de ⟨a0,⟨⟨⟩,⟨Z,⟨df,⟨dg,bj⟩⟩⟩⟩⟩;have z37:=bj.size;revert Y V U h5 F E X;refine eE bj ?_;intro Y V U h5 F E X;clear bj;refine C1 Pa (cT (Aj ?_))
 clear HF HS
 generalize Ch s=ws at *
 rcases (Decidable.em (ws.length=14)).symm with hl|hl
 . have e:QD ws = .tuple #[.agg zeroEX.cells0.toArray,.int .i64 0,.bool false]:=AE (fun h=>hl h.1);rw [e]
   refine cS (C1 Mv (C1 Pz (C1 Mv (C1 Pz ?_))));refine C1 (DU rfl rfl (bT _ Ab)) ?_;refine C1 V7 (C1 V2 (C1 Mv (Zk (Zk (Zk (Zk (C1 Uy (C1 Mv (AP rfl rfl rfl (rfl) rfl (AP rfl rfl rfl (rfl) rfl (AP rfl rfl rfl (rfl) rfl ?_)))))))))));refine AP rfl rfl rfl (rfl) rfl (AP rfl rfl rfl (rfl) rfl (C1 (Bc rfl rfl rfl) (cT (CK rfl (cS (C1 (Dp [_,_,_,_,_,_,_,_,_,_,_,_] Ac CM rfl rfl rfl rfl) ?_))))));refine eS [_,_,_,_,_,_,_,_,_,_,_,_] h5 ?_;intro dh ch br di;clear h5;revert Y V U F E X Z;refine eF br ?_;intro Y V U F E X Z;clear br;refine C1 Pa (C1 Pa (cT (BD (AL (CO rfl Ac rfl rfl rfl ch rfl rfl rfl ?_)))))
   exact ⟨rfl,X⟩
 have r0:=GK Z 0 Ab;have r1:=GK Z 1 Ab;have bs:=HL.out 1
 rcases (Decidable.em (ws.getD 0 []=[101,120,101,114,99,105,115,101])).symm with h0|h0
 . have e:QD ws = .tuple #[.agg zeroEX.cells0.toArray,.int .i64 0,.bool false]:=AE (fun h=>h0 h.2.1);rw [e];clear e bs r1
   generalize ws.getD 0 []=x0 at *
   refine cS (C1 Mv (C1 Pz (C1 Mv (C1 Pz ?_))));refine C1 (DU rfl rfl (bT _ Ab)) ?_;refine C1 V7 (C1 V2 (C1 Mv (Kz (C1 Mv (Kz (C1 Pi (Kz (C1 (Pw r0) (Kz (C1 V9 (C1 OQ ?_)))))))))));refine C1 Mv (N1 (N1 (N1 (N1 (N1 (C1 SZ (cT (CK rfl (cS (C1 (Dp [_,_,_,_,_,_,_,_,_,_,_,_] Ac CM rfl rfl rfl rfl) ?_))))))))));refine eS [_,_,_,_,_,_,_,_,_,_,_,_] h5 ?_;intro dk ci bt dl;clear h5;revert Y V U F E X Z r0;refine eF bt ?_;intro Y V U F E X Z r0;clear bt;refine C1 Pa (C1 Pa (cT (BD (AL (CO rfl Ac rfl rfl rfl ci rfl rfl rfl ?_)))))
   exact ⟨rfl,X⟩
 rw [h0] at r0;have HN:=bA (fun w1=>G0 (ws.getD 1 []) w1 Ab)
 cases hnm:A9 (ws.getD 1 [])
 . have e:QD ws = .tuple #[.agg zeroEX.cells0.toArray,.int .i64 0,.bool false]:=AE (fun h=>by have:=h.2.2.1;rw [hnm] at this;cases this);rw [e];rw [hnm] at HN;clear e bs hnm
   generalize ws.getD 1 []=x1 at *
   refine cS (C1 Mv (C1 Pz (C1 Mv (C1 Pz ?_))));refine C1 (DU rfl rfl (bT _ Ab)) ?_;refine C1 V7 (C1 V2 (C1 Mv (Kz (C1 Mv (Kz (C1 Pi (Kz (C1 (Pw r0) (Kz (C1 V9 (C1 OQ ?_)))))))))));refine C1 Mv (Jg (C1 Mv (Jg (C1 Pi (Jg (C1 (Zj r1) (Jg (cC rfl (HN.out _) ?_))))))));rintro _ dm ⟨⟨⟩,bk⟩;have dn:=bk.size;revert Y V U h5 F E X Z r0 r1;refine eE bk ?_;intro Y V U h5 F E X Z r0 r1;clear bk;refine Jg (C1 Pt (C1 Wp (cT (CK rfl (cS (C1 (Dp [_,_,_,_,_,_,_,_,_,_,_,_] Ac CM rfl rfl rfl rfl) ?_))))));refine eS [_,_,_,_,_,_,_,_,_,_,_,_] h5 ?_;intro dp cj bu dq;clear h5;revert Y V U F E X Z r0 r1;refine eF bu ?_;intro Y V U F E X Z r0 r1;clear bu;refine C1 Pa (C1 Pa (cT (BD (AL (CO rfl Ac rfl rfl rfl cj rfl rfl rfl ?_)))))
   exact ⟨rfl,X⟩
 rw [hnm] at HN
 refine cS (C1 Mv (C1 Pz (C1 Mv (C1 Pz ?_))));refine C1 (DU rfl rfl (bT _ Ab)) ?_;refine C1 V7 (C1 V2 (C1 Mv (Kz (C1 Mv (Kz (C1 Pi (Kz (C1 (Pw r0) (Kz (C1 V9 (C1 OQ ?_)))))))))));refine C1 Mv (Jg (C1 Mv (Jg (C1 Pi (Jg (C1 (Zj r1) (Jg (cC rfl (HN.out _) ?_))))))));rintro _ dr ⟨⟨⟩,bl⟩;have ds:=bl.size;revert Y V U h5 F E X Z r0 r1;refine eE bl ?_;intro Y V U h5 F E X Z r0 r1;clear bl;refine Jg (C1 Pt (C1 Wp (cT (Da rfl (As (Ai (cS (C1 Mv (C1 Pi (C1 (Zj r1) (C1 Pg ?_)))))))))));refine eV [_] [_,_,_,_,_,_,_,_,_,_,_,_] U ?_;intro dt bv bw du;clear U;revert Y V h5 F E X Z r0 r1;refine eF bw ?_;intro Y V h5 F E X Z r0 r1;clear bw;refine cT (Aj (cS (C1 Mv (C1 Pz (C1 Mv (cT ?_))))))
 refine Ar ?_;refine AJ (ι:=Nat) (fun j=>[(2,.pointer (some ⟨b1,0,none⟩)),(5,.pointer (some ⟨b9,0,none⟩)),(6,.pointer (some ⟨ax,0,none⟩)),(8,.slice (some ⟨a0,0,none⟩) ws.length ws.length),(43,.slice (some ⟨ay,0,none⟩) 6 6),(44,.int .i64 6),(45,.int .i64 j)])
  (fun j w'=>j<=6/\(∀i,i<j->QB ws i)/\Blk w' b9 (NJ ws j).cells0/\Blk w' ax [.int .i64 (if 5<j then Dy ws 5 else 0)]/\Blk w' b1 zeroEX.cells0/\Blk w' ay (E1 b9 ax)/\Blk w' a0 (ws.map str)/\Errs2 w'/\TabsF w'/\Ext w w'/\ay<w'.heap.size/\a0<w'.heap.size)
  (fun j=>6-j) 0 sB ⟨bI _,fun i h=>absurd h Ab,bv,V,h5,Y,Z,F,E,X,Y.lt,Z.lt⟩ ?_
 clear bv V h5 Y Z F E X r0 r1 HN;rintro j w3 ⟨hj,hq,N,f,h1,L,M,F,E,X,dv,dw⟩;have HQ:=bA hq;clear hq;have hz:=X.size
 by_cases ck:j<6
 . have ra:Row w3 ⟨a0,0+((2:Int)+2*(j:Int)).toNat*1,none⟩ [str (ws.getD (2+2*j) [])]:=by rw [show 0+((2:Int)+2*(j:Int)).toNat*1=2+2*j from by omega];exact GK M (2+2*j) Ab
   have rb:Row w3 ⟨a0,0+((3:Int)+2*(j:Int)).toNat*1,none⟩ [str (ws.getD (3+2*j) [])]:=by rw [show 0+((3:Int)+2*(j:Int)).toNat*1=3+2*j from by omega];exact GK M (3+2*j) Ab
   have bm:=HL.out (3+2*j)
   have a1:QB ws j -> ∀i,i<j+1->QB ws i:=fun h i hi=>by
    rcases bQ i j with h1|h1
    . exact HQ.out i h1
    . obtain rfl:i=j:=by omega
      exact h
   have az : ¬QB ws j->QD ws = .tuple #[.agg zeroEX.cells0.toArray,.int .i64 0,.bool false]:=fun h=>AE (fun h'=>h (h'.2.2.2 j ck))
   obtain ⟨fb,fo,O,hf⟩ : ∃fb fo,Row w3 ⟨ay,0+j*2,none⟩ [str (hwords.getD j []),.pointer (some ⟨fb,fo,none⟩)]/\(j<5/\fb=b9/\fo=1+j\/j=5/\fb=ax/\fo=0):=by
    rcases bQ j 5 with h|h
    . exact ⟨_,_,T6 b9 ax w3 ay L j h,bC ⟨h,rfl,rfl⟩⟩
    . obtain rfl:j=5:=by omega
      exact ⟨_,_,RI b9 ax w3 ay L,bF ⟨rfl,rfl,rfl⟩⟩
   have HU:=bA (fun w1 h1 h2=>RF (ws.getD (3+2*j) []) Ab w1 h1 h2)
   unfold QB at a1 az
   have bn:Dy ws j=(Hm (ws.getD (3+2*j) [])).1:=rfl
   have ar:j<5->(NJ ws j).cells0.set (1+j) (.int .i64 (Hm (ws.getD (3+2*j) [])).1)=(NJ ws (j+1)).cells0:=fun h=>T5 ws j h
   generalize ws.getD (2+2*j) []=xa at *
   generalize ws.getD (3+2*j) []=xb at *
   generalize hwords.getD j []=wd at *
   by_cases hw:xa=wd
   . subst hw
     cases hn:(Hm xb).2
     . rw [az (fun h=>by rw [hn] at h;cases h.2)];rw [hn] at HU;clear a1 az bn ar hn bm
       generalize (Hm xb).1=nn at *
       refine cS (C1 V3 (cT (Aj (S1 (As (Ai (Aj (Ar (cS (C1 Mv (C1 Pi ?_)))))))))));refine C1 (Uz O) ?_;refine eA [_,_] ?_;intro dx dy bx bz dz d0;revert N f h1 L M F E X ra rb O;refine eE bz ?_;intro N f h1 L M F E X ra rb O;clear bz;refine C1 Pa ?_;refine eS [_,_] bx ?_;intro b0 ac bc cm;clear bx;revert N f h1 L M F E X ra rb O;refine eF bc ?_;intro N f h1 L M F E X ra rb O;clear bc;refine cT (Aj ?_);refine AC (fun wz=>Ext b0 wz) 13 (.pure 0 (.pure 1 (.pure 2 (.pure 3 (.pure 4 (.pure 5 (.pure 6 (.pure 7 (.pure 8 (.pure 9 (.pure 10 (.pure 11 (.pure 12 .tail))))))))))))) mixed Bl (Aa (Al (Aa (Aa (Al (Aa An)))))) ?_;intro b2 au _;have ao:(fun wz=>Ext b0 wz) b2:=au;simp only at ao;have a5:=ac;have ad:=N;have aa:=f;have ah:=h1;have ai:=L;have aj:=M;have ak:=F;have al:=E;have ae:=ra;have af:=rb;have an:=O;have cn:=au.size;revert ac N f h1 L M F E X ra rb O;refine eE au ?_;intro ac N f h1 L M F E X ra rb O;clear au;refine ⟨ao,?_⟩;refine Tq rfl Mv (Tq rfl Mv ?_);refine Tq rfl (DU rfl rfl (bT _ Ab)) ?_;refine Tq rfl V7 (Tq rfl Pi (Tq rfl (Ax Ac rfl rfl rfl (fun wz hz=>fC (dZ ae hz) rfl)) (Tq rfl Mv (Tq rfl Mv ?_))));refine Tq rfl (DU rfl rfl (bT _ Ab)) ?_
       refine Tq rfl V7 (Tq rfl Pi (Tq rfl (Ax Ac rfl rfl rfl (fun wz hz=>fC (dZ af hz) rfl)) (Tq rfl Pa ?_)));clear ao a5 ad aa ah ai aj ak al ae af an;refine AF rfl (C1 Pa (cN (C1 Mv ?_)));refine cC rfl (HU.out _ Ag Ag) ?_;rintro _ co ⟨⟨⟩,a2⟩;have cp:=a2.size;revert ac N f h1 L M F E X ra rb O;refine eE a2 ?_;intro ac N f h1 L M F E X ra rb O;clear a2;refine C1 Mv (C1 Px (C1 Px (C1 Pa (C1 Pa (cT (Aj (cS (C1 Mv (C1 Pg (C1 (Pl ac) (C1 V9 ?_)))))))))));refine C1 Mv (A2 rfl rfl rfl (IL (not_not_intro rfl)) (C1 Mv (A2 rfl rfl rfl (IL (not_not_intro rfl)) (C1 Pt (C1 (Qn (not_not_intro rfl)) (cT (CK rfl (cS (C1 (Dp [_,_,_,_,_,_,_,_,_,_,_,_] Ac CM rfl rfl rfl rfl) ?_)))))))));refine eS [_,_,_,_,_,_,_,_,_,_,_,_] h1 ?_;intro cq b3 bd cr;clear h1;revert ac N f L M F E X ra rb O;refine eF bd ?_;intro ac N f L M F E X ra rb O;clear bd;refine C1 Pa (C1 Pa (cT (BD (AL (AV (AL (AL (AV (AL (CO rfl Ac rfl rfl rfl b3 rfl rfl rfl ?_))))))))))
       exact ⟨rfl,X⟩
     . have be:=a1 ⟨rfl,hn⟩;rw [hn] at HU;clear a1 az hn bm
       generalize (Hm xb).1=nn at *
       have HO:=bA be;clear be;have HT:=bA ar;clear ar
       refine cS (C1 V3 (cT (Aj (S1 (As (Ai (Aj (Ar (cS (C1 Mv (C1 Pi ?_)))))))))));refine C1 (Uz O) ?_;refine eA [_,_] ?_;intro d1 d2 b4 b5 d3 d4;revert N f h1 L M F E X ra rb O;refine eE b5 ?_;intro N f h1 L M F E X ra rb O;clear b5;refine C1 Pa ?_;refine eS [_,_] b4 ?_;intro b6 ab bf ct;clear b4;revert N f h1 L M F E X ra rb O;refine eF bf ?_;intro N f h1 L M F E X ra rb O;clear bf;refine cT (Aj ?_);refine AC (fun wz=>Ext b6 wz) 13 (.pure 0 (.pure 1 (.pure 2 (.pure 3 (.pure 4 (.pure 5 (.pure 6 (.pure 7 (.pure 8 (.pure 9 (.pure 10 (.pure 11 (.pure 12 .tail))))))))))))) mixed Bl (Aa (Al (Aa (Aa (Al (Aa An)))))) ?_;intro b7 av _;have ap:(fun wz=>Ext b6 wz) b7:=av;simp only at ap;have a6:=ab;have ad:=N;have aa:=f;have ah:=h1;have ai:=L;have aj:=M;have ak:=F;have al:=E;have ae:=ra;have af:=rb;have an:=O;have cu:=av.size;revert ab N f h1 L M F E X ra rb O;refine eE av ?_;intro ab N f h1 L M F E X ra rb O;clear av;refine ⟨ap,?_⟩;refine Tq rfl Mv (Tq rfl Mv ?_);refine Tq rfl (DU rfl rfl (bT _ Ab)) ?_;refine Tq rfl V7 (Tq rfl Pi (Tq rfl (Ax Ac rfl rfl rfl (fun wz hz=>fC (dZ ae hz) rfl)) (Tq rfl Mv (Tq rfl Mv ?_))));refine Tq rfl (DU rfl rfl (bT _ Ab)) ?_
       refine Tq rfl V7 (Tq rfl Pi (Tq rfl (Ax Ac rfl rfl rfl (fun wz hz=>fC (dZ af hz) rfl)) (Tq rfl Pa ?_)));clear ap a6 ad aa ah ai aj ak al ae af an;refine AF rfl (C1 Pa (cN (C1 Mv ?_)));refine cC rfl (HU.out _ Ag Ag) ?_;rintro _ cv ⟨⟨⟩,a3⟩;have cw:=a3.size;revert ab N f h1 L M F E X ra rb O;refine eE a3 ?_;intro ab N f h1 L M F E X ra rb O;clear a3;refine C1 Mv (C1 Px (C1 Px (C1 Pa (C1 Pa (cT (Aj (cS (C1 Mv (C1 Pg (C1 (Pl ab) (C1 V9 ?_)))))))))));refine C1 Mv (A2 rfl rfl rfl (IL (not_not_intro rfl)) (C1 Mv (A2 rfl rfl rfl (IL (not_not_intro rfl)) (C1 Pt (C1 (Qn (not_not_intro rfl)) (cT (Da rfl (As (Ai (Ad (C1 Pf ?_)))))))))));refine C1 (Pl ab) (C1 Mv (C1 Pn ?_))
       rcases hf with ⟨h5,rfl,rfl⟩|⟨rfl,rfl,rfl⟩
       . replace HT:=bA (HT.out h5)
         refine DA (K1 Ac rfl rfl rfl Ag (by show 1+j<12;omega)) ?_;refine Gx ?_;rintro _ d5 ⟨d6,⟨a7,d7⟩⟩;have d8:=a7.size;revert f h1 M F E X ra rb;refine eF a7 ?_;intro f h1 M F E X ra rb;clear N;revert L ab O;refine eF a7 ?_;intro L ab O;clear a7;refine Ah (Ae (Ai (Ad (C1 V7 (C1 Mv (Ah ?_))))))
         exact Aw (j+1) sB ⟨Ab,HO.out,by rw [<-HT.out];assumption,by rw [AE Ab] at f ⊢;exact f,h1,L,M,F,E,X,Ab,Ab⟩ Ab
       . clear HT
         refine DA (K1 Ac rfl rfl rfl Ag (by show 0<1;omega)) ?_;refine Gx ?_;rintro _ d9 ⟨ea,⟨a8,ec⟩⟩;have ed:=a8.size;revert h1 M F E X N ra rb L;refine eF a8 ?_;intro h1 M F E X N ra rb L;clear f;revert ab O;refine eF a8 ?_;intro ab O;clear a8;refine Ah (Ae (Ai (Ad (C1 V7 (C1 Mv (Ah ?_))))))
         exact Aw 6 sB ⟨Ab,HO.out,N,by show Blk _ _ [.int .i64 (Dy ws 5)];rw [bn];assumption,h1,L,M,F,E,X,Ab,Ab⟩ Ab
   . rw [az (fun h=>hw h.1)];clear a1 az bn ar bm
     generalize (Hm xb).1=nn at *
     generalize (Hm xb).2=ok at *
     refine cS (C1 V3 (cT (Aj (S1 (As (Ai (Aj (Ar (cS (C1 Mv (C1 Pi ?_)))))))))));refine C1 (Uz O) ?_;refine eA [_,_] ?_;intro ee ef b8 ca eg eh;revert N f h1 L M F E X ra rb O;refine eE ca ?_;intro N f h1 L M F E X ra rb O;clear ca;refine C1 Pa ?_;refine eS [_,_] b8 ?_;intro cb ag bg cx;clear b8;revert N f h1 L M F E X ra rb O;refine eF bg ?_;intro N f h1 L M F E X ra rb O;clear bg;refine cT (Aj ?_);refine AC (fun wz=>Ext cb wz) 13 (.pure 0 (.pure 1 (.pure 2 (.pure 3 (.pure 4 (.pure 5 (.pure 6 (.pure 7 (.pure 8 (.pure 9 (.pure 10 (.pure 11 (.pure 12 .tail))))))))))))) mixed Bl (Aa (Al (Aa (Aa (Al (Aa An)))))) ?_;intro cc aw _;have aq:(fun wz=>Ext cb wz) cc:=aw;simp only at aq;have a9:=ag;have ad:=N;have aa:=f;have ah:=h1;have ai:=L;have aj:=M;have ak:=F;have al:=E;have ae:=ra;have af:=rb;have an:=O;have cy:=aw.size;revert ag N f h1 L M F E X ra rb O;refine eE aw ?_;intro ag N f h1 L M F E X ra rb O;clear aw;refine ⟨aq,?_⟩;refine Tq rfl Mv (Tq rfl Mv ?_);refine Tq rfl (DU rfl rfl (bT _ Ab)) ?_;refine Tq rfl V7 (Tq rfl Pi (Tq rfl (Ax Ac rfl rfl rfl (fun wz hz=>fC (dZ ae hz) rfl)) (Tq rfl Mv (Tq rfl Mv ?_))));refine Tq rfl (DU rfl rfl (bT _ Ab)) ?_
     refine Tq rfl V7 (Tq rfl Pi (Tq rfl (Ax Ac rfl rfl rfl (fun wz hz=>fC (dZ af hz) rfl)) (Tq rfl Pa ?_)));clear aq a9 ad aa ah ai aj ak al ae af an;refine AF rfl (C1 Pa (cN (C1 Mv ?_)));refine cC rfl (HU.out _ Ag Ag) ?_;rintro _ cz ⟨⟨⟩,a4⟩;have c0:=a4.size;revert ag N f h1 L M F E X ra rb O;refine eE a4 ?_;intro ag N f h1 L M F E X ra rb O;clear a4;refine C1 Mv (C1 Px (C1 Px (C1 Pa (C1 Pa (cT (Aj (cS (C1 Mv (C1 Pg (C1 (Pl ag) (C1 V9 ?_)))))))))));refine C1 Mv (N1 (N1 (C1 SZ (cT (CK rfl (cS (C1 (Dp [_,_,_,_,_,_,_,_,_,_,_,_] Ac CM rfl rfl rfl rfl) ?_)))))));refine eS [_,_,_,_,_,_,_,_,_,_,_,_] h1 ?_;intro c1 cd bh c2;clear h1;revert ag N f L M F E X ra rb O;refine eF bh ?_;intro ag N f L M F E X ra rb O;clear bh;refine C1 Pa (C1 Pa (cT (BD (AL (AV (AL (AL (AV (AL (CO rfl Ac rfl rfl rfl cd rfl rfl rfl ?_))))))))))
     exact ⟨rfl,X⟩
 obtain rfl:j=6:=by omega
 have e:QD ws = .tuple #[.agg (Yi ws).cells0.toArray,.int .i64 (Dy ws 5),.bool true]:=AU ⟨hl,h0,hnm,HQ.out⟩;rw [e]
 unfold EX.cells0 eP at N
 refine cS (C1 V3 (cT (Aj (Hj (CB (AG (AG (A8 (Ai (Aj ?_))))))))));refine AC (fun wz=>Fr (fun x=>x=b1) w3 wz) 3 (.pure 0 (.pure 1 (.fork 2 .tail .none))) mixed Bl (Aa An) ?_;intro cl ba _;have am:(fun wz=>Fr (fun x=>x=b1) w3 wz) cl:=Fr.of_ext ba;simp only at am;have ah:=h1;have ai:=L;have aj:=M;have ak:=F;have al:=E;have ad:=N;have aa:=f;have ei:=ba.size;revert h1 L M F E X N f;refine eE ba ?_;intro h1 L M F E X N f;clear ba;refine ⟨am,?_⟩;refine Tq rfl (Cc [_,_,_,_,_,_,_,_,_,_,_,_] Ac rfl rfl rfl (fun wz hz=>(dQ ad hz (by first|omega|(dsimp only;omega)))) rfl rfl) ?_;refine Tq rfl (Ax Ac rfl rfl rfl (fun wz hz=>dP (dQ aa hz (by first|omega|(dsimp only;omega))) rfl)) ?_;refine Jf [_,_,_,_,_,_,_,_,_,_,_,_] [_,_,_,_,_,_,_,_,_,_,_,_] rfl Ac rfl rfl rfl rfl rfl rfl h1 rfl rfl ?_ A7;intro ej bb;have ce:=bb.blk;have cf:=bb.fr;have ek:=bb.size;clear bb h1;revert am L M F E X N f;refine eF cf ?_;intro am L M F E X N f;clear cf;refine ⟨am,?_⟩;clear ah ai aj ak al ad aa am;refine AF rfl (C1 Pa (C1 Pa (cT (BD (CO rfl Ac rfl rfl rfl ce rfl rfl rfl ?_)))))
 exact ⟨rfl,X⟩
abbrev Hg:=List lB
inductive Nt where
 | ex (lv:Int):Nt
 | cl (lv:Int) (x:Nd):Nt
 | un:Nt
 | pl:Nt
def SH (lv:Int) (b:Hg):Prop:= ∀t∈b.head?,∀op,IN t=some op->B3 op<lv
inductive G:Nt->Hg->Nd->Prop where
 | ex {lv:Int} {a b:Hg} {x y:Nd}:G .un a x->G (.cl lv x) b y->G (.ex lv) (a++b) y
 | cl0 {lv:Int} {x:Nd}:G (.cl lv x) [] x
 | cl1 {lv op:Int} {t:lB} {a b:Hg} {x y z:Nd}:IN t=some op->lv<=B3 op->G (.ex (B3 op+1)) a y->SH (B3 op+1) b->G (.cl lv (.mk op 0 [] [x,y])) b z->G (.cl lv x) (t::(a++b)) z
 | neg {a:Hg} {x:Nd}:G .un a x->G .un ([45]::a) (.mk 6 0 [] [x])
 | not {a:Hg} {x:Nd}:G .un a x->G .un ([33]::a) (.mk 7 0 [] [x])
 | num {t:lB}:Eu t=true->(Bs t:Int)<=9223372036854775807->G .un [t] (.mk 1 (Bs t) [] [])
 | top {m:lB}:A9 m=true->G .un [[116,111,112],[40],m,[41]] (.mk 4 0 m [])
 | size {m:lB}:A9 m=true->G .un [[115,105,122,101],[40],m,[41]] (.mk 5 0 m [])
 | par {a:Hg} {x:Nd}:G (.ex 1) a x->G .un ([40]::(a++[[41]])) x
 | place {a:Hg} {x:Nd}:G .pl a x->G .un a x
 | var {m:lB}:A9 m=true->G .pl [m] (.mk 2 0 m [])
 | item {m:lB} {a:Hg} {x:Nd}:A9 m=true->G (.ex 1) a x->G .pl (m::[91]::(a++[[93]])) (.mk 3 0 m [x])
section
variable {ts:List Tok} {n:Int}
def OK (ts:List Tok):Hg:=ts.map Tok.text
def ZX (σ:PS) (k:Nat):PS:=⟨σ.at_+k,σ.off,σ.err⟩
def rem (ts:List Tok) (σ:PS):Hg:=(OK ts).drop σ.at_
def OL (σ:PS):(rem ts σ).length=ts.length-σ.at_:=by simp [rem,OK]
def XF {σ:PS} {a b:Hg} (h:rem ts σ=a++b):rem ts (ZX σ a.length)=b:=by
 unfold rem ZX at *;simp only;rw [<-List.drop_drop,h];simp
def VS {σ:PS} {t:lB} {b:Hg} (h:rem ts σ=t::b):rem ts (ZX σ 1)=b:=XF (a:=[t]) h
def YZ {σ:PS} {t:lB} {b:Hg} (h:rem ts σ=t::b):σ.at_<ts.length:=by
 have:=OL (ts:=ts) σ;rw [h] at this;simp at this;omega
def NK {σ:PS} {t:lB} {b:Hg} (h:rem ts σ=t::b) (E:σ.err=0):(Ap ts σ).text=t:=by
 have f:=YZ h;unfold Ap;rw [AE (by rintro (h|h);exact h E;omega)];unfold rem OK at h;rw [cW (by simpa using f)] at h;simp only [List.getElem_map,cK] at h;rw [dC,aY f];exact h.1
def GL {σ:PS} (f:σ.at_<ts.length) (E:σ.err=0):Ap ts σ∈ts:=by
 unfold Ap;rw [AE (by rintro (h|h);exact h E;omega),dC,aY f];exact bD f
def VT {σ:PS} (E:σ.at_<ts.length) (f:σ.err=0):rem ts σ=(Ap ts σ).text::rem ts (ZX σ 1):=by
 cases h:rem ts σ with
 | nil=>have:=OL (ts:=ts) σ;rw [h] at this;simp at this;omega
 | cons t b=>rw [NK h f,VS h]
end
section
variable {ts:List Tok} {n:Int}
end
section
variable {ts:List Tok} {n:Int}
def SI {σ:PS} {lv:Int} (L:σ.at_<=ts.length) (E:σ.err=0) (h : ∀op,IN (Ap ts σ).text=some op->B3 op<lv):SH lv (rem ts σ):=by
 intro t f op F;cases hr:rem ts σ with
 | nil=>rw [hr] at f;cases f
 | cons u b=>
  rw [hr] at f;have:t=u:=by simpa using f.symm
  subst this;exact h op (by rw [NK hr E];exact F)
def Seg (ts:List Tok) (σ σ':PS) (a:Hg):Prop:=rem ts σ=a++rem ts σ'
def Seg.refl (σ:PS):Seg ts σ σ []:=rfl
def Seg.trans {σ f E:PS} {a b:Hg} (h:Seg ts σ f a) (k:Seg ts f E b):Seg ts σ E (a++b):=by unfold Seg at *;rw [h,k,cF]
def Ed {σ:PS} (h:In ts σ):Seg ts σ (Ao σ) [(Ap ts σ).text]:=VT h.2 h.1
def Eg {σ:PS} {t:lB} (f:σ.at_<=ts.length) (h:B7 ts σ t=true) (E:t≠[]):Seg ts σ (Ao σ) [t]:=by
 have:=Ed (AN f h E);have e:(Ap ts σ).text=t:=of_decide_eq_true h;rwa [e] at this
def BY {σ:PS} {t:lB} (E:σ.at_<=ts.length) (F:t≠[]) (f:(AA ts n σ t).err=0):Seg ts σ (AA ts n σ t) [t]:=by
 unfold AA at *;split at f
 . rename_i h;rw [AU h];exact Eg E h F
 . exact absurd f Et
def CQ {σ:PS} (E:σ.at_<=ts.length) (h:(A4 ts n σ).2.err=0):Seg ts σ (A4 ts n σ).2 [(A4 ts n σ).1]/\A9 (A4 ts n σ).1=true:=by
 unfold A4 at *;split at h
 . rename_i f;rw [AU f];exact ⟨Ed (B2 E (bC (GA f))),f⟩
 . exact absurd h Et
def MD (N:BG ts) {f h:Int} {σ:PS} (O:σ.at_<=ts.length) (F:(B1 ts n f h σ).2.err=0) :
 ∃t,Seg ts σ (B1 ts n f h σ).2 [t]/\Eu t=true/\(B1 ts n f h σ).1=(Bs t:Int)/\(Bs t:Int)<=9223372036854775807/\f<=(Bs t:Int)/\(Bs t:Int)<=h:=by
 unfold B1 at *;split at F
 . rename_i M;rw [AU M];have E:=B2 O (bF (by rw [M];decide));split at F
   . rename_i L;rw [AU L];exact ⟨_,Ed E,(N _ (GL E.2 E.1)).1 M,rfl,L.1,L.2.1,L.2.2⟩
   . exact absurd F (DQ Az)
 . exact absurd F Et
def ME (hd:BG ts) (k:Nat) :
 (∀lv σ,σ.at_<=ts.length->4*mS ts σ+4<=k->(Bx ts n k lv σ).2.err=0 -> ∃a,Seg ts σ (Bx ts n k lv σ).2 a/\G (.ex lv) a (Bx ts n k lv σ).1/\SH lv (rem ts (Bx ts n k lv σ).2)) /\
 (∀lv x σ,σ.at_<=ts.length->4*mS ts σ+1<=k->(BW ts n k lv x σ).2.err=0 -> ∃a,Seg ts σ (BW ts n k lv x σ).2 a/\G (.cl lv x) a (BW ts n k lv x σ).1/\SH lv (rem ts (BW ts n k lv x σ).2)) /\
 (∀ σ,σ.at_<=ts.length->4*mS ts σ+3<=k->(Bj ts n k σ).2.err=0 -> ∃a,Seg ts σ (Bj ts n k σ).2 a/\G .un a (Bj ts n k σ).1) /\
 (∀ σ,σ.at_<=ts.length->4*mS ts σ+2<=k->(Bp ts n k σ).2.err=0 -> ∃a,Seg ts σ (Bp ts n k σ).2 a/\G .un a (Bp ts n k σ).1) /\
 (∀ σ,σ.at_<=ts.length->4*mS ts σ+1<=k->(BF ts n k σ).2.err=0 -> ∃a,Seg ts σ (BF ts n k σ).2 a/\G .pl a (BF ts n k σ).1):=by
 induction k with
 | zero=>refine ⟨fun _ _ _ h=>?_,fun _ _ _ _ h=>?_,fun _ _ h=>?_,fun _ _ h=>?_,fun _ _ h=>?_⟩<;>omega
 | succ k ih=>
  obtain ⟨iE,iC,iU,iP,iL⟩:=ih;obtain ⟨vE,vC,vU,vP,vL⟩:=EL (ts:=ts) (n:=n) k;refine ⟨fun lv σ h Z E=>?_,fun lv x σ h Z E=>?_,fun σ h Z E=>?_,fun σ h Z E=>?_,fun σ h Z E=>?_⟩
  . rw [Bx] at E ⊢;have hu:=vU σ h;have hc:=vC lv (Bj ts n k σ).1 (Bj ts n k σ).2 hu.1.wf;have U:=Sq hu.1 (hu.2 Ab);have aa:=hc.ok E;obtain ⟨a,N,O⟩:=iU σ h Ab aa;obtain ⟨b,sb,gb,X⟩:=iC lv _ _ hu.1.wf Ab E;exact ⟨a++b,N.trans sb,G.ex O gb,X⟩
  . cases ho:IN (Ap ts σ).text with
    | none=>
     have e:BW ts n (k+1) lv x σ=(x,σ):=by rw [BW];simp only [ho]
     rw [e] at E ⊢;exact ⟨[],Seg.refl _,G.cl0,SI h E (fun op e=>by rw [ho] at e;cases e)⟩
    | some op=>
     obtain ⟨ab,ae⟩:=FP ho;have F:=B2 h (bC ab);have U:=Ca F;have hp:=Rh F;by_cases hl:B3 op<lv
     . have e:BW ts n (k+1) lv x σ=(x,σ):=by rw [BW];simp only [ho];rw [AU hl]
       rw [e] at E ⊢;exact ⟨[],Seg.refl _,G.cl0,SI h F.1 (fun o e=>by rw [ho] at e;cases e;exact hl)⟩
     . have e:BW ts n (k+1) lv x σ=BW ts n k lv (.mk op 0 [] [x,(Bx ts n k (B3 op+1) (Ao σ)).1]) (Bx ts n k (B3 op+1) (Ao σ)).2:=by rw [BW];simp only [ho];rw [AE hl]
       rw [e] at E ⊢;have h1:=AB F;have L:=vE (B3 op+1) (Ao σ) h1.wf;have M:=vC lv (.mk op 0 [] [x,(Bx ts n k (B3 op+1) (Ao σ)).1]) _ L.1.wf;have af:=BC L.1;obtain ⟨a,N,O,ac⟩:=iE (B3 op+1) (Ao σ) h1.wf Ab (M.ok E);obtain ⟨b,sb,gb,X⟩:=iC lv _ _ L.1.wf Ab E;refine ⟨(Ap ts σ).text::(a++b),(Ed F).trans (N.trans sb),G.cl1 ho Ab O ?_ gb,X⟩;intro t ht;refine ac t ?_;have ad:rem ts (Bx ts n k (B3 op+1) (Ao σ)).2=b++_:=sb;rw [ad];cases b with
       | nil=>cases ht
       | cons u r=>simpa using ht
  . rw [Bj] at E ⊢;split at E
    . rename_i f;rw [AU f];have F:=AN h f Az;have U:=Ca F;obtain ⟨a,N,O⟩:=iU (Ao σ) (AB F).wf Ab E;exact ⟨_,(Eg h f Az).trans N,G.neg O⟩
    . rename_i f;rw [AE f];split at E
      . rename_i f;rw [AU f];have F:=AN h f Az;have U:=Ca F;obtain ⟨a,N,O⟩:=iU (Ao σ) (AB F).wf Ab E;exact ⟨_,(Eg h f Az).trans N,G.not O⟩
      . rename_i f;rw [AE f];exact iP σ h Ab E
  . rw [Bp] at E ⊢;split at E
    . rename_i f;rw [AU f];obtain ⟨t,X,h1,L,M,-⟩:=MD hd h E;refine ⟨[t],X,?_⟩;simp only [L];exact G.num h1 M
    . rename_i f;rw [AE f];split at E
      . rename_i f;rw [AU f];have F:=AN h f Az;have h1:=AB F;have L:=Aq (n:=n) (t:=[40]) h1.wf Az;have M:=AM (n:=n) L.wf;have h4:=Aq (n:=n) (t:=[41]) M.wf Az;have Y:=h4.ok E;obtain ⟨s3,U⟩:=CQ L.wf Y;exact ⟨_,(((Eg h f Az).trans (BY h1.wf Az (M.ok Y))).trans s3).trans (BY M.wf Az E),G.top U⟩
      . rename_i f;rw [AE f];split at E
        . rename_i f;rw [AU f];have F:=AN h f Az;have h1:=AB F;have L:=Aq (n:=n) (t:=[40]) h1.wf Az;have M:=AM (n:=n) L.wf;have h4:=Aq (n:=n) (t:=[41]) M.wf Az;have Y:=h4.ok E;obtain ⟨s3,U⟩:=CQ L.wf Y;exact ⟨_,(((Eg h f Az).trans (BY h1.wf Az (M.ok Y))).trans s3).trans (BY M.wf Az E),G.size U⟩
        . rename_i f;rw [AE f];split at E
          . rename_i f;rw [AU f];have F:=AN h f Az;have U:=Ca F;have h1:=AB F;have L:=(vE 1 (Ao σ) h1.wf).1;have M:=Aq (n:=n) (t:=[41]) L.wf Az;obtain ⟨a,N,O,-⟩:=iE 1 (Ao σ) h1.wf Ab (M.ok E);exact ⟨_,(Eg h f Az).trans (N.trans (BY L.wf Az E)),G.par O⟩
          . rename_i f;rw [AE f];obtain ⟨a,N,O⟩:=iL σ h Ab E;exact ⟨a,N,G.place O⟩
  . rw [BF] at E ⊢;have h0:=AM (n:=n) h;split at E
    . rename_i f;rw [AU f];have F:=AN h0.wf f Az;have U:=Ca F;have ag:=BC h0;have h1:=AB F;have L:=(vE 1 _ h1.wf).1;have M:=Aq (n:=n) (t:=[93]) L.wf Az;obtain ⟨s0,V⟩:=CQ h F.1;obtain ⟨a,N,O,-⟩:=iE 1 _ h1.wf Ab (M.ok E);exact ⟨_,s0.trans ((Eg h0.wf f Az).trans (N.trans (BY L.wf Az E))),G.item V O⟩
    . rename_i f;rw [AE f];obtain ⟨s0,V⟩:=CQ h E;exact ⟨_,s0,G.var V⟩
end
def G.valid {f:Nt} {a:Hg} {x:Nd} (h:G f a x):match f with
 | .cl _ y=>y.isExpr=true->x.isExpr=true
 | .pl=>x.isPlace=true
 | _=>x.isExpr=true:=by
 induction h with
 | ex _ _ F i2=>exact i2 F
 | cl0=>exact fun h=>h
 | @cl1 lv op t a b x y z h1 M N O U i3 i5=>
  intro E;refine i5 ?_;obtain ⟨-,V,L,-⟩:=FP h1;unfold fO;rw [AE Ab,AE Ab,AE Ab,AE Ab,AU Ab];simp only at i3 E;simp [plain,E,i3]
 | neg _ i=>unfold fO;simp only at i;simp [plain,i]
 | not _ i=>unfold fO;simp only at i;simp [plain,i]
 | num=>unfold fO;simp
 | top h=>unfold fO;simp [named,h]
 | size h=>unfold fO;simp [named,h]
 | par _ i=>exact i
 | place _ i=>simp only [Nd.isPlace,bB] at i;exact i.2
 | var h=>simp [Nd.isPlace,fO,Nd.kind,named,h]
 | item h _ i=>simp only at i;simp [Nd.isPlace,fO,Nd.kind,named,h,i]
inductive NtS where
 | st:NtS
 | bl:NtS
 | ls:NtS
def MF (m:lB):Nd:=.mk 2 0 m []
def ZM (l:Hg):Hg:=l.flatMap fun m=>[[44],m]
def IG:List (lB×Int):=[([112,117,115,104],44),([112,111,112],45)]
def Kt:List (lB×Int):=[([114,101,97,100],46),([117,110,114,101,97,100],47),([119,114,105,116,101],48),([117,110,119,114,105,116,101],49)]
def Gh:List (lB×Int):=[([99,97,108,108],50),([117,110,99,97,108,108],51)]
def EP:List (lB×Int×lB×lB):=[([105,102],52,[101,108,115,101],[102,105]),([102,114,111,109],53,[108,111,111,112],[117,110,116,105,108])]
inductive GS:NtS->Hg->List Nd->Prop where
 | stack {kw m:lB} {kd:Int} {a:Hg} {x:Nd}:(kw,kd)∈IG->G .pl a x->A9 m=true->GS .st (kw::(a++[[44],m])) [.mk kd 0 m [x]]
 | tape {kw:lB} {kd:Int} {a:Hg} {x:Nd}:(kw,kd)∈Kt->G .pl a x->GS .st (kw::a) [.mk kd 0 [] [x]]
 | call0 {kw m:lB} {kd:Int}:(kw,kd)∈Gh->A9 m=true->GS .st [kw,m,[40],[41]] [.mk kd 0 m []]
 | call1 {kw m u:lB} {kd:Int} {l:Hg}:(kw,kd)∈Gh->A9 m=true->A9 u=true->(∀v∈l,A9 v=true)->l.length<=7->GS .st (kw::m::[40]::u::(ZM l++[[41]])) [.mk kd 0 m ((u::l).map MF)]
 | branch {kw mid last:lB} {kd:Int} {a b c d:Hg} {x y z u:Nd}:(kw,kd,mid,last)∈EP->G (.ex 1) a x->GS .bl b [y]->GS .bl c [z]->G (.ex 1) d u->GS .st (kw::(a++(b++(mid::(c++(last::d)))))) [.mk kd 0 [] [x,y,z,u]]
 | lstack {m:lB} {b:Hg} {x:Nd}:A9 m=true->GS .bl b [x]->GS .st ([108,111,99,97,108]::[115,116,97,99,107]::m::b) [.mk 55 0 m [x]]
 | local_ {m:lB} {a b d:Hg} {x y z:Nd}:A9 m=true->G (.ex 1) a x->GS .bl b [y]->G (.ex 1) d z->GS .st ([108,111,99,97,108]::m::[61]::(a++(b++([100,101,108,111,99,97,108]::d)))) [.mk 54 0 m [x,y,z]]
 | upd {t:lB} {a b:Hg} {x y:Nd}:G .pl a x->CE t≠0->G (.ex 1) b y->GS .st (a++t::b) [.mk (CE t) 0 [] [x,y]]
 | swap {a b:Hg} {x y:Nd}:G .pl a x->G .pl b y->GS .st (a++[60,61,62]::b) [.mk 43 0 [] [x,y]]
 | bl {a:Hg} {l:List Nd}:GS .ls a l->GS .bl ([123]::(a++[[125]])) [.mk 57 0 [] l]
 | ls0:GS .ls [] []
 | ls1 {a b:Hg} {x:Nd} {l:List Nd}:GS .st a [x]->GS .ls b l->GS .ls (a++[59]::b) (x::l)
section
variable {ts:List Tok} {n:Int}
end
section
variable {ts:List Tok} {n:Int}
def RJ {σ:PS} {f:lB} {E:Int} (h:(f,E)∈IG) (F:(Ap ts σ).text=f) (k:Nat):Bt ts n (k+1) σ=Fo ts n k E σ:=by
 simp only [IG,bR,cO,bX,or_false] at h;rcases h with ⟨rfl,rfl⟩|⟨rfl,rfl⟩
 . rw [Bt,F,AU rfl]
 . rw [Bt,F,AE Az,AU rfl]
def T7 {σ:PS} {E:lB} {F:Int} (h:(E,F)∈Kt) (f:(Ap ts σ).text=E) (k:Nat):Bt ts n (k+1) σ=F4 ts n k F σ:=by
 simp only [Kt,bR,cO,bX,or_false] at h;rcases h with ⟨rfl,rfl⟩|⟨rfl,rfl⟩|⟨rfl,rfl⟩|⟨rfl,rfl⟩
 . rw [Bt,f,AE Az,AE Az,AU rfl]
 . rw [Bt,f,AE Az,AE Az,AE Az,AU rfl]
 . rw [Bt,f,AE Az,AE Az,AE Az,AE Az,AU rfl]
 . rw [Bt,f,AE Az,AE Az,AE Az,AE Az,AE Az,AU rfl]
def T8 {σ:PS} {f:lB} {E:Int} (h:(f,E)∈Gh) (F:(Ap ts σ).text=f) (k:Nat):Bt ts n (k+1) σ=Fq ts n k E σ:=by
 simp only [Gh,bR,cO,bX,or_false] at h;rcases h with ⟨rfl,rfl⟩|⟨rfl,rfl⟩
 . rw [Bt,F,AE Az,AE Az,AE Az,AE Az,AE Az,AE Az,AU rfl]
 . rw [Bt,F,AE Az,AE Az,AE Az,AE Az,AE Az,AE Az,AE Az,AU rfl]
def QE {σ:PS} {F E f:lB} {L:Int} (h:(F,L,E,f)∈EP) (M:(Ap ts σ).text=F) (k:Nat):Bt ts n (k+1) σ=BK ts n k L E f σ:=by
 simp only [EP,bR,cO,bX,or_false] at h;rcases h with ⟨rfl,rfl,rfl,rfl⟩|⟨rfl,rfl,rfl,rfl⟩
 . rw [Bt,M,AE Az,AE Az,AE Az,AE Az,AE Az,AE Az,AE Az,AE Az,AU rfl]
 . rw [Bt,M,AE Az,AE Az,AE Az,AE Az,AE Az,AE Az,AE Az,AE Az,AE Az,AU rfl]
def RK {σ:PS} (f:(Ap ts σ).text=[108,111,99,97,108]) (k:Nat):Bt ts n (k+1) σ=Du ts n k σ:=by
 rw [Bt,f,AE Az,AE Az,AE Az,AE Az,AE Az,AE Az,AE Az,AE Az,AE Az,AE Az,AU rfl]
def T9 {F E f:lB} {L:Int} (h:(F,L,E,f)∈EP):E≠[]/\f≠[]:=by
 simp only [EP,bR,cO,bX,or_false] at h;rcases h with ⟨rfl,rfl,rfl,rfl⟩|⟨rfl,rfl,rfl,rfl⟩<;>decide
end
section
variable {ts:List Tok} {n:Int} {I:PS->Prop}
structure Clo (ts:List Tok) (n:Int) (I:PS->Prop):Prop where
 next : ∀ σ,In ts σ->I σ->I (Ao σ)
 unexp : ∀ σ,σ.at_<=ts.length->I σ->I (CU ts n σ)
 full : ∀ σ,In ts σ->I σ->I (Bw σ (Ap ts σ).pos 5)
 range : ∀ σ,In ts σ->I σ->I (Bw (Ao σ) (Ap ts σ).pos 2)
def Clo.expect (C:Clo ts n I) {σ:PS} {t:lB} (h:σ.at_<=ts.length) (ht:t≠[]) (i:I σ):I (AA ts n σ t):=by
 unfold AA;split
 . rename_i hh;exact C.next _ (AN h hh ht) i
 . exact C.unexp _ h i
def Clo.name (C:Clo ts n I) {σ:PS} (h:σ.at_<=ts.length) (i:I σ):I (A4 ts n σ).2:=by
 unfold A4;split
 . rename_i hh;exact C.next _ (B2 h (bC (GA hh))) i
 . exact C.unexp _ h i
def Clo.number (C:Clo ts n I) {a b:Int} {σ:PS} (h:σ.at_<=ts.length) (i:I σ):I (B1 ts n a b σ).2:=by
 unfold B1;split
 . rename_i hh;have hn:=B2 h (bF (by rw [hh];decide));split
   . exact C.next _ hn i
   . exact C.range _ hn i
 . exact C.unexp _ h i
def Clo.exprs (C:Clo ts n I) (k:Nat):(∀lv σ,σ.at_<=ts.length->I σ->I (Bx ts n k lv σ).2)/\(∀lv x σ,σ.at_<=ts.length->I σ->I (BW ts n k lv x σ).2) /\
 (∀ σ,σ.at_<=ts.length->I σ->I (Bj ts n k σ).2)/\(∀ σ,σ.at_<=ts.length->I σ->I (Bp ts n k σ).2)/\(∀ σ,σ.at_<=ts.length->I σ->I (BF ts n k σ).2):=by
 induction k with
 | zero=>
  refine ⟨fun lv σ h i=>?_,fun lv x σ h i=>?_,fun σ h i=>?_,fun σ h i=>?_,fun σ h i=>?_⟩
  . rw [Bx];exact i
  . rw [BW];exact i
  . rw [Bj];exact i
  . rw [Bp];exact i
  . rw [BF];exact i
 | succ k ih=>
  obtain ⟨iE,iC,iU,iP,iL⟩:=ih;obtain ⟨vE,vC,vU,vP,vL⟩:=EL (ts:=ts) (n:=n) k;refine ⟨fun lv σ h i=>?_,fun lv x σ h i=>?_,fun σ h i=>?_,fun σ h i=>?_,fun σ h i=>?_⟩
  . rw [Bx];exact iC _ _ _ (vU σ h).1.wf (iU _ h i)
  . rw [BW];split
    . exact i
    . rename_i op hop;obtain ⟨hne,-⟩:=FP hop;have hn:=B2 h (bC hne);split
      . exact i
      . have h1:=AB hn;have h2:=vE (B3 op+1) (Ao σ) h1.wf;exact iC _ _ _ h2.1.wf (iE _ _ h1.wf (C.next _ hn i))
  . rw [Bj];split
    . rename_i hh;have hn:=AN h hh Az;exact iU _ (AB hn).wf (C.next _ hn i)
    . split
      . rename_i hh;have hn:=AN h hh Az;exact iU _ (AB hn).wf (C.next _ hn i)
      . exact iP _ h i
  . rw [Bp];split
    . exact C.number h i
    . split
      . rename_i hh;have hn:=AN h hh Az;have h1:=AB hn;have h2:=Aq (n:=n) (t:=[40]) h1.wf Az;have h3:=AM (n:=n) h2.wf;exact C.expect h3.wf Az (C.name h2.wf (C.expect h1.wf Az (C.next _ hn i)))
      . split
        . rename_i hh;have hn:=AN h hh Az;have h1:=AB hn;have h2:=Aq (n:=n) (t:=[40]) h1.wf Az;have h3:=AM (n:=n) h2.wf;exact C.expect h3.wf Az (C.name h2.wf (C.expect h1.wf Az (C.next _ hn i)))
        . split
          . rename_i hh;have hn:=AN h hh Az;have h1:=AB hn;exact C.expect (vE 1 _ h1.wf).1.wf Az (iE _ _ h1.wf (C.next _ hn i))
          . exact iL _ h i
  . rw [BF];have h0:=AM (n:=n) h;split
    . rename_i hh;have hn:=AN h0.wf hh Az;have h1:=AB hn;exact C.expect (vE 1 _ h1.wf).1.wf Az (iE _ _ h1.wf (C.next _ hn (C.name h i)))
    . exact C.name h i
def Clo.expr (C:Clo ts n I) {k:Nat} {lv:Int} {σ:PS} (h:σ.at_<=ts.length) (i:I σ):I (Bx ts n k lv σ).2:=(C.exprs k).1 lv σ h i
def Clo.place (C:Clo ts n I) {k:Nat} {σ:PS} (h:σ.at_<=ts.length) (i:I σ):I (BF ts n k σ).2:=(C.exprs k).2.2.2.2 σ h i
def II {k:Nat} {σ:PS} (h:σ.at_<=ts.length):Le ts σ (BF ts n k σ).2:=((EL (ts:=ts) (n:=n) k).2.2.2.2 σ h).1
def Clo.args (C:Clo ts n I) (k:Nat) : ∀acc σ,σ.at_<=ts.length->I σ->I (Cx ts n k acc σ).2:=by
 induction k with
 | zero=>intro acc σ h i;rw [Cx];exact i
 | succ k ih=>
  intro acc σ h i;rw [Cx];split
  . rename_i hh;have hn:=AN h hh Az;have h1:=AB hn;have i1:=C.next _ hn i;split
    . rename_i h8;have l2:=BZ (ts:=ts) h1.wf (Ap ts (Ao σ)).pos 5;exact ih _ _ (AM (n:=n) l2.wf).wf (C.name l2.wf (C.full _ (B2 h1.wf (bC (GA h8.2))) i1))
    . exact ih _ _ (AM (n:=n) h1.wf).wf (C.name h1.wf i1)
  . exact i
def JS (k:Nat) : ∀acc σ,σ.at_<=ts.length->Le ts σ (Cx ts n k acc σ).2:=by
 induction k with
 | zero=>intro acc σ h;rw [Cx];exact eU h
 | succ k E=>
  intro acc σ h;rw [Cx];split
  . rename_i L;have h1:=AB (AN h L Az);split
    . have F:=h1.trans (BZ (ts:=ts) h1.wf (Ap ts (Ao σ)).pos 5);have f:=F.trans (AM (n:=n) F.wf);exact f.trans (E _ _ f.wf)
    . have f:=h1.trans (AM (n:=n) h1.wf);exact f.trans (E _ _ f.wf)
  . exact eU h
def Clo.call (C:Clo ts n I) {k:Nat} {kind:Int} {σ:PS} (h:In ts σ) (i:I σ):I (Fq ts n k kind σ).2:=by
 unfold Fq;have h1:=AB h;have h2:=AM (n:=n) h1.wf;have h3:=Aq (n:=n) (t:=[40]) h2.wf Az;have i3:=C.expect (t:=[40]) h2.wf Az (C.name h1.wf (C.next _ h i));simp only;split
 . rename_i hh;exact C.next _ (AN h3.wf hh Az) i3
 . have h4:=AM (n:=n) h3.wf;exact C.expect (JS k _ _ h4.wf).wf Az (C.args k _ _ h4.wf (C.name h3.wf i3))
def Clo.update (C:Clo ts n I) {k:Nat} {σ:PS} (h:σ.at_<=ts.length) (i:I σ):I (Dt ts n k σ).2:=by
 unfold Dt;have h1:=II (n:=n) (k:=k) h;have i1:=C.place (k:=k) h i;simp only;split
 . rename_i hh;have hn:=AN h1.wf hh Az;exact C.place (AB hn).wf (C.next _ hn i1)
 . split
   . exact C.unexp _ h1.wf i1
   . rename_i hh;have hn:=B2 h1.wf (bC (LX hh));exact C.expr (AB hn).wf (C.next _ hn i1)
def Clo.stack (C:Clo ts n I) {k:Nat} {kind:Int} {σ:PS} (h:In ts σ) (i:I σ):I (Fo ts n k kind σ).2:=by
 unfold Fo;have h1:=AB h;have h2:=II (n:=n) (k:=k) h1.wf;have h3:=Aq (n:=n) (t:=[44]) h2.wf Az;exact C.name h3.wf (C.expect h2.wf Az (C.place h1.wf (C.next _ h i)))
def Clo.tape (C:Clo ts n I) {k:Nat} {kind:Int} {σ:PS} (h:In ts σ) (i:I σ):I (F4 ts n k kind σ).2:=by
 unfold F4;exact C.place (AB h).wf (C.next _ h i)
def Clo.stmts (C:Clo ts n I) (k:Nat):(∀ σ,σ.at_<=ts.length->I σ->I (Bt ts n k σ).2)/\(∀kind mid last σ,In ts σ->mid≠[]->last≠[]->I σ->I (BK ts n k kind mid last σ).2)/\(∀ σ,In ts σ->I σ->I (Du ts n k σ).2) /\
 (∀ σ,σ.at_<=ts.length->I σ->I (Ct ts n k σ).2)/\(∀acc σ,σ.at_<=ts.length->I σ->I (CA ts n k acc σ).2):=by
 induction k with
 | zero=>
  refine ⟨fun σ h i=>?_,fun kind mid last σ h _ _ i=>?_,fun σ h i=>?_,fun σ h i=>?_,fun acc σ h i=>?_⟩
  . rw [Bt];exact i
  . rw [BK];exact i
  . rw [Du];exact i
  . rw [Ct];exact i
  . rw [CA];exact i
 | succ k ih=>
  obtain ⟨iS,iB,iL,iK,iT⟩:=ih;obtain ⟨vS,vB,vL,vK,vT⟩:=DR (ts:=ts) (n:=n) k;refine ⟨fun σ h i=>?_,fun kind mid last σ hn hmid hlast i=>?_,fun σ hn i=>?_,fun σ h i=>?_,fun acc σ h i=>?_⟩
  . rw [Bt];have hin : ∀t:lB,t≠[]->(Ap ts σ).text=t->In ts σ:=fun t ht e=>B2 h (bC (by rw [e];exact ht))
    by_cases c:(Ap ts σ).text=[112,117,115,104]
    . rw [AU c];exact C.stack (hin _ Az c) i
    rw [AE c];clear c;by_cases c:(Ap ts σ).text=[112,111,112]
    . rw [AU c];exact C.stack (hin _ Az c) i
    rw [AE c];clear c;by_cases c:(Ap ts σ).text=[114,101,97,100]
    . rw [AU c];exact C.tape (hin _ Az c) i
    rw [AE c];clear c;by_cases c:(Ap ts σ).text=[117,110,114,101,97,100]
    . rw [AU c];exact C.tape (hin _ Az c) i
    rw [AE c];clear c;by_cases c:(Ap ts σ).text=[119,114,105,116,101]
    . rw [AU c];exact C.tape (hin _ Az c) i
    rw [AE c];clear c;by_cases c:(Ap ts σ).text=[117,110,119,114,105,116,101]
    . rw [AU c];exact C.tape (hin _ Az c) i
    rw [AE c];clear c;by_cases c:(Ap ts σ).text=[99,97,108,108]
    . rw [AU c];exact C.call (hin _ Az c) i
    rw [AE c];clear c;by_cases c:(Ap ts σ).text=[117,110,99,97,108,108]
    . rw [AU c];exact C.call (hin _ Az c) i
    rw [AE c];clear c;by_cases c:(Ap ts σ).text=[105,102]
    . rw [AU c];exact iB _ _ _ _ (hin _ Az c) Az Az i
    rw [AE c];clear c;by_cases c:(Ap ts σ).text=[102,114,111,109]
    . rw [AU c];exact iB _ _ _ _ (hin _ Az c) Az Az i
    rw [AE c];clear c;by_cases c:(Ap ts σ).text=[108,111,99,97,108]
    . rw [AU c];exact iL _ (hin _ Az c) i
    rw [AE c];clear c;exact C.update h i
  . rw [BK];have h1:=AB hn;have h2:=Dx (n:=n) (k:=k) (lv:=1) h1.wf;have h3:=vK _ h2.wf;have h4:=Aq (n:=n) (t:=mid) h3.wf hmid;have h5:=vK _ h4.wf;have h6:=Aq (n:=n) (t:=last) h5.wf hlast;exact C.expr h6.wf (C.expect h5.wf hlast (iK _ h4.wf (C.expect h3.wf hmid (iK _ h2.wf (C.expr h1.wf (C.next _ hn i))))))
  . rw [Du];have h1:=AB hn;have i1:=C.next _ hn i;split
    . rename_i hh;have a:=AN h1.wf hh Az;have h2:=AB a;exact iK _ (AM (n:=n) h2.wf).wf (C.name h2.wf (C.next _ a i1))
    . have h2:=AM (n:=n) h1.wf;have h3:=Aq (n:=n) (t:=[61]) h2.wf Az;have h4:=Dx (n:=n) (k:=k) (lv:=1) h3.wf;have h5:=vK _ h4.wf;have h6:=Aq (n:=n) (t:=[100,101,108,111,99,97,108]) h5.wf Az;exact C.expr h6.wf (C.expect h5.wf Az (iK _ h4.wf (C.expr h3.wf (C.expect h2.wf Az (C.name h1.wf i1)))))
  . rw [Ct];exact iT _ _ (Aq (n:=n) (t:=[123]) h Az).wf (C.expect h Az i)
  . rw [CA];split
    . exact i
    . split
      . rename_i hh;exact C.next _ (AN h hh Az) i
      . have h1:=vS _ h;exact iT _ _ (Aq (n:=n) (t:=[59]) h1.wf Az).wf (C.expect h1.wf Az (iS _ h i))
def Clo.decl (C:Clo ts n I) {σ:PS} (h:σ.at_<=ts.length) (i:I σ):I (Bu ts n σ).2:=by
 unfold Bu;split
 . rename_i hh;have hn:=AN h hh Az;exact C.name (AB hn).wf (C.next _ hn i)
 . split
   . rename_i hh;have hn:=AN h hh Az;exact C.name (AB hn).wf (C.next _ hn i)
   . split
     . rename_i hh;have hn:=AN h hh Az;have h1:=AB hn;have h2:=AM (n:=n) h1.wf;have h3:=Aq (n:=n) (t:=[91]) h2.wf Az;have h4:=FA (n:=n) (a:=1) (b:=16) h3.wf;exact C.expect h4.wf Az (C.number h3.wf (C.expect h2.wf Az (C.name h1.wf (C.next _ hn i))))
     . exact C.unexp _ h i
def NL {σ:PS} (h:σ.at_<=ts.length) (f:Cd ts σ=true):In ts σ:=by
 simp only [Cd,Bool.or_eq_true] at f;rcases f with (c|c)|c<;>exact AN h c Az
def Clo.params (C:Clo ts n I) (k:Nat) : ∀acc σ,σ.at_<=ts.length->I σ->I (Bo ts n k acc σ).2:=by
 induction k with
 | zero=>intro acc σ h i;rw [Bo];exact i
 | succ k ih=>
  intro acc σ h i;rw [Bo];split
  . rename_i hh;have hn:=AN h hh Az;have h1:=AB hn;have i1:=C.next _ hn i;simp only;split
    . rename_i h8;have l2:=BZ (ts:=ts) h1.wf (Ap ts (Ao σ)).pos 5;exact ih _ _ (Ci (n:=n) l2.wf).wf (C.decl l2.wf (C.full _ (NL h1.wf h8.2) i1))
    . exact ih _ _ (Ci (n:=n) h1.wf).wf (C.decl h1.wf i1)
  . exact i
structure CloL (ts:List Tok) (n:Int) (I:PS->Prop):Prop extends Clo ts n I where
 lim : ∀ σ x τ,σ.at_<=ts.length->I σ->I τ->I (D8 x (Ap ts σ).pos τ)
def CloL.body (C:CloL ts n I) {k:Nat} {σ:PS} (h:σ.at_<=ts.length) (i:I σ):I (EQ ts n k σ).2:=by
 unfold EQ;exact C.lim _ _ _ h i ((C.toClo.stmts k).2.2.2.1 _ h i)
def CloL.proc (C:CloL ts n I) {k:Nat} {σ:PS} (h:σ.at_<=ts.length) (i:I σ):I (De ts n k σ).2:=by
 rw [FV];have h1:=Aq (n:=n) (t:=[112,114,111,99]) h Az;have h2:=AM (n:=n) h1.wf;have h3:=Aq (n:=n) (t:=[40]) h2.wf Az;have i3:=C.expect (t:=[40]) h2.wf Az (C.name h1.wf (C.expect (t:=[112,114,111,99]) h Az i));have h4:=FU (n:=n) (k:=k) h3.wf;refine C.body h4.wf ?_;unfold F7;split
 . rename_i hh;exact C.next _ (AN h3.wf hh Az) i3
 . have h5:=Ci (n:=n) h3.wf;exact C.expect (EZ (n:=n) k _ _ h5.wf).wf Az (C.params k _ _ h5.wf (C.decl h3.wf i3))
def CloL.vars (C:CloL ts n I) (k:Nat) : ∀acc σ,σ.at_<=ts.length->I σ->I (Dl ts n k acc σ).2:=by
 induction k with
 | zero=>intro acc σ h i;rw [Dl];exact i
 | succ k f=>
  intro acc σ h i;rw [Dl];split
  . rename_i F;simp only;split
    . have E:=BZ (ts:=ts) h (Ap ts σ).pos 5;exact f _ _ (Ci (n:=n) E.wf).wf (C.decl E.wf (C.full _ (NL h F) i))
    . exact f _ _ (Ci (n:=n) h).wf (C.decl h i)
  . exact i
def CloL.procs (C:CloL ts n I) (k:Nat) : ∀acc σ,σ.at_<=ts.length->I σ->I (B5 ts n k acc σ).2:=by
 induction k with
 | zero=>intro acc σ h i;rw [B5];exact i
 | succ k f=>
  intro acc σ h i;rw [B5];split
  . rename_i F;simp only;split
    . have E:=BZ (ts:=ts) h (Ap ts σ).pos 5;exact f _ _ (DS (n:=n) (k:=k) E.wf).wf (C.proc E.wf (C.full _ (AN h F Az) i))
    . exact f _ _ (DS (n:=n) (k:=k) h).wf (C.proc h i)
  . exact i
def CloL.program (C:CloL ts n I) {k:Nat} {σ:PS} (h:σ.at_<=ts.length) (i:I σ):I (BH ts n k σ).2:=by
 unfold BH;have h1:=He (n:=n) k [] σ h;have f:=DT (n:=n) k [] _ h1.wf;exact C.body (Aq (n:=n) (t:=[109,97,105,110]) f.wf Az).wf (C.expect f.wf Az (C.procs k _ _ h1.wf (C.vars k _ _ h i)))
def Clo.finish (C:Clo ts n I) {σ:PS} (h:σ.at_<=ts.length) (i:I σ):I (DK ts n σ):=by
 unfold DK;split
 . exact C.unexp _ h i
 . exact i
end
section
variable {ts:List Tok} {n:Int}
def RL (k:Nat) : ∀(acc:List Nd) (σ:PS),σ.at_<=ts.length->acc.length<=8->(Cx ts n k acc σ).2.err=0 -> ∃l:Hg,Seg ts σ (Cx ts n k acc σ).2 (ZM l)/\(∀v∈l,A9 v=true)/\(Cx ts n k acc σ).1=acc++l.map MF/\acc.length+l.length<=8:=by
 induction k with
 | zero=>intro acc σ h M f;rw [Cx];exact ⟨[],Seg.refl _,Bd,Bd,by simpa using M⟩
 | succ k X=>
  intro acc σ h M f;rw [Cx] at f ⊢;split at f
  . rename_i E;rw [AU E];have Y:=AN h E Az;have h1:=AB Y;by_cases c:acc.length=8/\A9 (Ap ts (Ao σ)).text=true
    . rw [AU c] at f;exfalso;have Z:=BZ (ts:=ts) h1.wf (Ap ts (Ao σ)).pos 5;have F:=AM (n:=n) Z.wf;exact absurd ((F.trans (JS k _ _ F.wf)).ok f) (DQ Az)
    . rw [AE c] at f ⊢;have F:=AM (n:=n) h1.wf;have e3:=(JS (n:=n) k (acc++[(DB ts n (Ao σ)).1]) _ F.wf).ok f;obtain ⟨s3,L⟩:=CQ h1.wf e3;have aa:acc.length<8:=by
       rcases bQ acc.length 8 with V|V
       . exact V
       . exfalso;refine c ⟨Ab,?_⟩;unfold A4 at L;split at L
         . assumption
         . have N:A9 []=true:=L;exact absurd N Az
      obtain ⟨l,sl,hl,hr,O⟩:=X (acc++[(DB ts n (Ao σ)).1]) (DB ts n (Ao σ)).2 F.wf (by simp only [aU,aV,aX];omega) f;refine ⟨(A4 ts n (Ao σ)).1::l,?_,?_,?_,?_⟩
      . exact ((Eg h E Az).trans s3).trans sl
      . intro v U;rcases bR.1 U with rfl|U
        . exact L
        . exact hl v U
      . rw [hr];simp [DB,MF]
      . simp only [aU,aV,aX] at O ⊢;omega
  . rename_i E;rw [AE E];exact ⟨[],Seg.refl _,Bd,Bd,by simpa using M⟩
def RM {k:Nat} {kw:lB} {N:Int} {σ:PS} (F:(kw,N)∈Gh) (hp:(Ap ts σ).text=kw) (h:In ts σ) (f:(Fq ts n k N σ).2.err=0) : ∃a,Seg ts σ (Fq ts n k N σ).2 a/\GS .st a [(Fq ts n k N σ).1]:=by
 have h1:=AB h;have O:=AM (n:=n) h1.wf;have E:=Aq (n:=n) (t:=[40]) O.wf Az;have U:=Ed h;rw [hp] at U;unfold Fq at f ⊢;simp only at f ⊢;split at f
 . rename_i L;rw [AU L];have M:=(AB (AN E.wf L Az)).ok f;obtain ⟨V,X⟩:=CQ h1.wf (E.ok M);exact ⟨_,((U.trans V).trans (BY O.wf Az M)).trans (Eg E.wf L Az),GS.call0 F X⟩
 . rename_i L;rw [AE L];have Y:=AM (n:=n) E.wf;have Z:=JS (n:=n) k [(DB ts n (AA ts n (A4 ts n (Ao σ)).2 [40])).1] _ Y.wf;have e5:=(Aq (n:=n) (t:=[41]) Z.wf Az).ok f;have e4:=Z.ok e5;have M:=Y.ok e4;obtain ⟨V,X⟩:=CQ h1.wf (E.ok M);obtain ⟨s4,hu⟩:=CQ E.wf e4;obtain ⟨l,sl,hl,hr,h8⟩:=RL (n:=n) k _ _ Y.wf Bd e5;refine ⟨_,U.trans (V.trans ((BY O.wf Az M).trans (s4.trans (sl.trans (BY Z.wf Az f))))),?_⟩;have aa:(Cx ts n k [(DB ts n (AA ts n (A4 ts n (Ao σ)).2 [40])).1] (DB ts n (AA ts n (A4 ts n (Ao σ)).2 [40])).2).1=((A4 ts n (AA ts n (A4 ts n (Ao σ)).2 [40])).1::l).map MF:=hr.trans (by simp [DB,MF]);rw [aa];exact GS.call1 F X hu hl (by simp only [aV,aX] at h8;omega)
def Fj (f:BG ts) {k:Nat} {σ:PS} (h:σ.at_<=ts.length) (E:4*mS ts σ+1<=k) (F:(BF ts n k σ).2.err=0) : ∃a,Seg ts σ (BF ts n k σ).2 a/\G .pl a (BF ts n k σ).1:=(ME f k).2.2.2.2 σ h E F
def Ip (f:BG ts) {k:Nat} {lv:Int} {σ:PS} (h:σ.at_<=ts.length) (E:4*mS ts σ+4<=k) (F:(Bx ts n k lv σ).2.err=0) : ∃a,Seg ts σ (Bx ts n k lv σ).2 a/\G (.ex lv) a (Bx ts n k lv σ).1:=by
 obtain ⟨a,h1,L,-⟩:=(ME f k).1 lv σ h E F;exact ⟨a,h1,L⟩
def OM (L:BG ts) {k:Nat} {σ:PS} (h:σ.at_<=ts.length) (X:4*mS ts σ+1<=k) (E:(Dt ts n k σ).2.err=0) : ∃a,Seg ts σ (Dt ts n k σ).2 a/\GS .st a [(Dt ts n k σ).1]:=by
 have h1:=II (n:=n) (k:=k) h;have Z:=BC h1;unfold Dt at E ⊢;simp only at E ⊢;split at E
 . rename_i F;rw [AU F];have f:=AN h1.wf F Az;have Y:=Ca f;obtain ⟨a,M,N⟩:=Fj L h X f.1;obtain ⟨b,O,U⟩:=Fj L (AB f).wf Ab E;exact ⟨_,M.trans ((Eg h1.wf F Az).trans O),GS.swap N U⟩
 . rename_i F;rw [AE F];split at E
   . exact absurd E Et
   . rename_i V;rw [AE V];have f:=B2 h1.wf (bC (LX V));have Y:=Ca f;obtain ⟨a,M,N⟩:=Fj L h X f.1;obtain ⟨b,O,U⟩:=Ip L (AB f).wf Ab E;exact ⟨_,M.trans ((Ed f).trans O),GS.upd N V U⟩
def RN {σ σ':PS} (h:Le ts σ σ') (k:Lt σ σ') (e:σ'.err=0):mS ts σ'+1<=mS ts σ:=by
 have f:=h.ok e;have h1:=k e;have E:=h.wf;unfold mS;rw [AU e,AU f];omega
def SJ {k:Nat} {lv:Int} {σ:PS} (h:σ.at_<=ts.length) (f:4<=k):mS ts (Bx ts n k lv σ).2+1<=mS ts σ\/mS ts (Bx ts n k lv σ).2=0:=by
 have:=(EL (ts:=ts) (n:=n) k).1 lv σ h;exact Sq this.1 (this.2 f)
def NM {σ:PS} {t:lB} (h:σ.at_<=ts.length) (f:t≠[]):mS ts (AA ts n σ t)+1<=mS ts σ\/mS ts (AA ts n σ t)=0:=Sq (Aq h f) DG
def MG (hd:BG ts) (k:Nat) :
 (∀ σ,σ.at_<=ts.length->4*mS ts σ+6<=k->(Bt ts n k σ).2.err=0 -> ∃a,Seg ts σ (Bt ts n k σ).2 a/\GS .st a [(Bt ts n k σ).1]) /\
 (∀L V M E σ,(L,V,M,E)∈EP->(Ap ts σ).text=L->In ts σ->4*mS ts σ+5<=k->(BK ts n k V M E σ).2.err=0 -> ∃a,Seg ts σ (BK ts n k V M E σ).2 a/\GS .st a [(BK ts n k V M E σ).1]) /\
 (∀ σ,(Ap ts σ).text=[108,111,99,97,108]->In ts σ->4*mS ts σ+5<=k->(Du ts n k σ).2.err=0 -> ∃a,Seg ts σ (Du ts n k σ).2 a/\GS .st a [(Du ts n k σ).1]) /\
 (∀ σ,σ.at_<=ts.length->4*mS ts σ+8<=k->(Ct ts n k σ).2.err=0 -> ∃a,Seg ts σ (Ct ts n k σ).2 a/\GS .bl a [(Ct ts n k σ).1]) /\
 (∀acc σ,σ.at_<=ts.length->4*mS ts σ+7<=k->(CA ts n k acc σ).2.err=0 -> ∃a l,Seg ts σ (CA ts n k acc σ).2 (a++[[125]])/\GS .ls a l/\(CA ts n k acc σ).1=acc++l):=by
 induction k with
 | zero=>refine ⟨fun _ _ h=>?_,fun _ _ _ _ _ _ _ _ h=>?_,fun _ _ _ h=>?_,fun _ _ h=>?_,fun _ _ _ h=>?_⟩<;>omega
 | succ k ih=>
  obtain ⟨iS,iB,iL,iK,iT⟩:=ih;obtain ⟨vS,vB,vL,vK,vT⟩:=DR (ts:=ts) (n:=n) k;refine ⟨fun σ h hk f=>?_,fun L V M E σ F O X hk f=>?_,fun σ O X hk f=>?_,fun σ h hk f=>?_,fun acc σ h hk f=>?_⟩
  . have aa : ∀t:lB,t≠[]->(Ap ts σ).text=t->In ts σ:=fun t ht e=>B2 h (bC (by rw [e];exact ht))
    have af : ∀L V,(L,V)∈IG->L≠[]->(Ap ts σ).text=L -> ∃a,Seg ts σ (Bt ts n (k+1) σ).2 a/\GS .st a [(Bt ts n (k+1) σ).1]:=by
     intro L V F Y O;have X:=aa L Y O;have m1:=Ca X;rw [RJ F O] at f ⊢;have Z:=Ed X;rw [O] at Z;unfold Fo at f ⊢;simp only at f ⊢;have h1:=AB X;have U:=II (n:=n) (k:=k) h1.wf;have N:=Aq (n:=n) (t:=[44]) U.wf Az;have h4:=AM (n:=n) N.wf;have e3:=h4.ok f;obtain ⟨a,sa,ga⟩:=Fj hd h1.wf Ab (N.ok e3);obtain ⟨s4,hm⟩:=CQ N.wf f;exact ⟨_,Z.trans (sa.trans ((BY U.wf Az e3).trans s4)),GS.stack F ga hm⟩
    have ac : ∀L V,(L,V)∈Kt->L≠[]->(Ap ts σ).text=L -> ∃a,Seg ts σ (Bt ts n (k+1) σ).2 a/\GS .st a [(Bt ts n (k+1) σ).1]:=by
     intro L V F Y O;have X:=aa L Y O;have m1:=Ca X;rw [T7 F O] at f ⊢;have Z:=Ed X;rw [O] at Z;unfold F4 at f ⊢;simp only at f ⊢;have h1:=AB X;obtain ⟨a,sa,ga⟩:=Fj hd h1.wf Ab f;exact ⟨_,Z.trans sa,GS.tape F ga⟩
    have ag : ∀L V,(L,V)∈Gh->L≠[]->(Ap ts σ).text=L -> ∃a,Seg ts σ (Bt ts n (k+1) σ).2 a/\GS .st a [(Bt ts n (k+1) σ).1]:=by
     intro L V F Y O;rw [T8 F O] at f ⊢;exact RM F O (aa L Y O) f
    have ah : ∀L V M E,(L,V,M,E)∈EP->L≠[]->(Ap ts σ).text=L -> ∃a,Seg ts σ (Bt ts n (k+1) σ).2 a/\GS .st a [(Bt ts n (k+1) σ).1]:=by
     intro L V M E F Y O;rw [QE F O] at f ⊢;exact iB L V M E σ F O (aa L Y O) Ab f
    by_cases c:(Ap ts σ).text=[112,117,115,104]
    . exact af _ 44 Az Az c
    by_cases c2:(Ap ts σ).text=[112,111,112]
    . exact af _ 45 Az Az c2
    by_cases c3:(Ap ts σ).text=[114,101,97,100]
    . exact ac _ 46 Az Az c3
    by_cases c4:(Ap ts σ).text=[117,110,114,101,97,100]
    . exact ac _ 47 Az Az c4
    by_cases c5:(Ap ts σ).text=[119,114,105,116,101]
    . exact ac _ 48 Az Az c5
    by_cases c6:(Ap ts σ).text=[117,110,119,114,105,116,101]
    . exact ac _ 49 Az Az c6
    by_cases c7:(Ap ts σ).text=[99,97,108,108]
    . exact ag _ 50 Az Az c7
    by_cases c8:(Ap ts σ).text=[117,110,99,97,108,108]
    . exact ag _ 51 Az Az c8
    by_cases c9:(Ap ts σ).text=[105,102]
    . exact ah _ 52 [101,108,115,101] [102,105] Az Az c9
    by_cases ai:(Ap ts σ).text=[102,114,111,109]
    . exact ah _ 53 [108,111,111,112] [117,110,116,105,108] Az Az ai
    by_cases ad:(Ap ts σ).text=[108,111,99,97,108]
    . rw [RK ad] at f ⊢;exact iL σ ad (aa _ Az ad) Ab f
    have e:Bt ts n (k+1) σ=Dt ts n k σ:=by
     rw [Bt,AE c,AE c2,AE c3,AE c4,AE c5,AE c6,AE c7,AE c8,AE c9,AE ai,AE ad]
    rw [e] at f ⊢;exact OM hd h Ab f
  . rw [BK] at f ⊢;obtain ⟨ae,ab⟩:=T9 F;have Z:=Ed X;rw [O] at Z;have m0:=Ca X;have h1:=AB X;have U:=Dx (n:=n) (k:=k) (lv:=1) h1.wf;have m2:=SJ (n:=n) (k:=k) (lv:=1) h1.wf Ab;have N:=vK _ U.wf;have m3:=BC N;have h4:=Aq (n:=n) (t:=M) N.wf ae;have m4:=BC h4;have h5:=vK _ h4.wf;have m5:=BC h5;have h6:=Aq (n:=n) (t:=E) h5.wf ab;have m6:=BC h6;have h7:=Dx (n:=n) (k:=k) (lv:=1) h6.wf;simp only at f ⊢;have e6:=h7.ok f;have e5:=h6.ok e6;have e4:=h5.ok e5;have e3:=h4.ok e4;have e2:=N.ok e3;obtain ⟨a,sa,ga⟩:=Ip hd h1.wf Ab e2;obtain ⟨b,sb,gb⟩:=iK _ U.wf Ab e3;obtain ⟨c,sc,gc⟩:=iK _ h4.wf Ab e5;obtain ⟨d,sd,gd⟩:=Ip hd h6.wf Ab f;exact ⟨_,Z.trans (sa.trans (sb.trans ((BY N.wf ae e4).trans (sc.trans ((BY h5.wf ab e6).trans sd))))),GS.branch F ga gb gc gd⟩
  . rw [Du] at f ⊢;have Z:=Ed X;rw [O] at Z;have m0:=Ca X;have h1:=AB X;split at f
    . rename_i hh;rw [AU hh];have aj:=AN h1.wf hh Az;have m1:=Ca aj;have U:=AB aj;have N:=AM (n:=n) U.wf;have m3:=BC N;have h4:=vK _ N.wf;simp only at f ⊢;obtain ⟨s3,hm⟩:=CQ U.wf (h4.ok f);obtain ⟨b,sb,gb⟩:=iK _ N.wf Ab f;exact ⟨_,Z.trans ((Eg h1.wf hh Az).trans (s3.trans sb)),GS.lstack hm gb⟩
    . rename_i hh;rw [AE hh];have U:=AM (n:=n) h1.wf;have m2:=BC U;have N:=Aq (n:=n) (t:=[61]) U.wf Az;have m3:=BC N;have h4:=Dx (n:=n) (k:=k) (lv:=1) N.wf;have m4:=SJ (n:=n) (k:=k) (lv:=1) N.wf Ab;have h5:=vK _ h4.wf;have m5:=BC h5;have h6:=Aq (n:=n) (t:=[100,101,108,111,99,97,108]) h5.wf Az;have m6:=BC h6;have h7:=Dx (n:=n) (k:=k) (lv:=1) h6.wf;simp only at f ⊢;have e6:=h7.ok f;have e5:=h6.ok e6;have e4:=h5.ok e5;have e3:=h4.ok e4;have e2:=N.ok e3;obtain ⟨s2,hm⟩:=CQ h1.wf e2;obtain ⟨a,sa,ga⟩:=Ip hd N.wf Ab e4;obtain ⟨b,sb,gb⟩:=iK _ h4.wf Ab e5;obtain ⟨d,sd,gd⟩:=Ip hd h6.wf Ab f;exact ⟨_,Z.trans (s2.trans ((BY U.wf Az e3).trans (sa.trans (sb.trans ((BY h5.wf Az e6).trans sd))))),GS.local_ hm ga gb gd⟩
  . rw [Ct] at f ⊢;have h1:=Aq (n:=n) (t:=[123]) h Az;have m1:=NM (n:=n) (t:=[123]) h Az;have U:=vT [] _ h1.wf;simp only at f ⊢;obtain ⟨a,l,sa,ga,hl⟩:=iT [] _ h1.wf Ab f;refine ⟨_,(BY h Az (U.ok f)).trans sa,?_⟩;rw [hl];exact GS.bl ga
  . rw [CA] at f ⊢;split at f
    . exact absurd f Ag
    . rename_i h0;rw [AE h0];split at f
      . rename_i hh;rw [AU hh];exact ⟨[],[],Eg h hh Az,GS.ls0,Bd⟩
      . rename_i hh;rw [AE hh];have h1:=vS σ h;have m1:=BC h1;have U:=Aq (n:=n) (t:=[59]) h1.wf Az;have m2:=NM (n:=n) (t:=[59]) h1.wf Az;have N:=vT (acc++[(Bt ts n k σ).1]) _ U.wf;have e2:=N.ok f;have m3:=RN U DG e2;obtain ⟨a,sa,ga⟩:=iS σ h Ab (U.ok e2);obtain ⟨b,l,sb,gb,hl⟩:=iT _ _ U.wf Ab f;refine ⟨a++[59]::b,(Bt ts n k σ).1::l,?_,GS.ls1 ga gb,by rw [hl];simp⟩;have:=sa.trans ((BY h1.wf Az e2).trans sb);simpa using this
end
def Ua (l:Hg) (h : ∀v∈l,A9 v=true):(l.map MF).all Nd.isVar=true:=by
 rw [cX];intro x f;obtain ⟨v,E,rfl⟩:=List.mem_map.1 f;simp [MF,Nd.isVar,fO,Nd.kind,named,h v E]
def GS.valid {O:NtS} {a:Hg} {l:List Nd} (h:GS O a l):match O with
 | .st=> ∀x,l=[x]->x.isStmt=true
 | .bl=> ∀x,l=[x]->x.isBlock=true
 | .ls=>DY l=true:=by
 induction h with
 | stack h1 f E=>
  rintro x ⟨⟩;have:=f.valid;simp only [IG,bR,cO,bX,or_false] at h1;rcases h1 with ⟨-,rfl⟩|⟨-,rfl⟩<;>(unfold fJ;simp only at this;simp [named,E,this])
 | tape h1 f=>
  rintro x ⟨⟩;have:=f.valid;simp only [Kt,bR,cO,bX,or_false] at h1;rcases h1 with ⟨-,rfl⟩|⟨-,rfl⟩|⟨-,rfl⟩|⟨-,rfl⟩<;>(unfold fJ;simp only at this;simp [plain,this])
 | call0 h1 f=>
  rintro x ⟨⟩;simp only [Gh,bR,cO,bX,or_false] at h1;rcases h1 with ⟨-,rfl⟩|⟨-,rfl⟩<;>(unfold fJ;simp [named,f])
 | @call1 Z m u kd l h1 f E M U=>
  rintro x ⟨⟩;have F:=Ua (u::l) (fun v F=>by rcases bR.1 F with rfl|F;exact E;exact M v F);have X:((u::l).map MF).length<=8:=by simp only [List.length_map,aV];omega
  simp only [Gh,bR,cO,bX,or_false] at h1;generalize (u::l).map MF=q at *;rcases h1 with ⟨-,rfl⟩|⟨-,rfl⟩<;>(unfold fJ;simp [named,f,X,F])
 | branch h1 f E M U i3 i4=>
  rintro x ⟨⟩;have v2:=f.valid;have v5:=U.valid;have v3:=i3 _ rfl;have v4:=i4 _ rfl;simp only [EP,bR,cO,bX,or_false] at h1;simp only at v2 v5;rcases h1 with ⟨-,rfl,-⟩|⟨-,rfl,-⟩<;>(unfold fJ;simp [plain,v2,v3,v4,v5])
 | lstack h1 f i2=>
  rintro x ⟨⟩;have v2:=i2 _ rfl;unfold fJ;simp [named,h1,v2]
 | local_ h1 f E M i3=>
  rintro x ⟨⟩;have v2:=f.valid;have v3:=i3 _ rfl;have v4:=M.valid;simp only at v2 v4;unfold fJ;simp [named,h1,v2,v3,v4]
 | @upd t a b x y h1 f E=>
  rintro z ⟨⟩;have L:=h1.valid;have v3:=E.valid;simp only at L v3;have Y:CE t=40\/CE t=41\/CE t=42\/CE t=56:=by
   unfold CE at f ⊢;by_cases V:t=[43,61]
   . simp [V]
   by_cases c2:t=[45,61]
   . simp [c2]
   by_cases c3:t=[94,61]
   . simp [c3]
   by_cases c4:t=[58,61]
   . simp [c4]
   simp [V,c2,c3,c4] at f
  unfold fJ;rw [AU Y];simp [plain,L,v3]
 | swap h1 f=>
  rintro x ⟨⟩;have L:=h1.valid;have v2:=f.valid;simp only at L v2;unfold fJ;simp [plain,L,v2]
 | bl h1 N=>
  rintro x ⟨⟩;simp only at N;unfold Nd.isBlock;simp [plain,N]
 | ls0=>simp [DY]
 | ls1 h1 f N i2=>
  have:=N _ rfl;simp only at i2;simp only [DY,this,i2,Bool.and_self]
section
variable {ts:List Tok} {n:Int}
def JT {x:Nd} {off:Int} {σ:PS} (h:(D8 x off σ).err=0):σ.err=0/\x.depth<=80/\x.size<=2000:=by
 unfold D8 at h;split at h
 . exact absurd h Ag
 . rename_i E;have f:σ.err=0:=by simpa using E
   split at h
   . exact absurd h (DQ Az)
   . split at h
     . exact absurd h (DQ Az)
     . exact ⟨f,Ab,Ab⟩
def RO (k:Nat) : ∀(acc:List VD) (σ:PS),σ.at_<=ts.length->(Dl ts n k acc σ).2.err=0->acc.length<=32->(Dl ts n k acc σ).1.length<=32:=by
 induction k with
 | zero=>intro acc σ h f L;rw [Dl];exact L
 | succ k N=>
  intro acc σ h f L;rw [Dl] at f ⊢;split at f
  . rename_i M;rw [AU M];simp only at f ⊢;by_cases E:acc.length=32
    . rw [AU E] at f;have O:=BZ (ts:=ts) h (Ap ts σ).pos 5;have F:=Ci (n:=n) O.wf;exact absurd ((F.trans (He k _ _ F.wf)).ok f) (DQ Az)
    . rw [AE E] at f ⊢;have F:=Ci (n:=n) h;exact N _ _ F.wf f (by simp only [aU,aV,aX];omega)
  . rename_i M;rw [AE M];exact L
def ON (k:Nat) : ∀(acc:List VD) (σ:PS),σ.at_<=ts.length->(Bo ts n k acc σ).2.err=0->acc.length<=8->(Bo ts n k acc σ).1.length<=8:=by
 induction k with
 | zero=>intro acc σ h f M;rw [Bo];exact M
 | succ k U=>
  intro acc σ h f M;rw [Bo] at f ⊢;split at f
  . rename_i F;rw [AU F];simp only at f ⊢;have O:=AB (AN h F Az);by_cases N:acc.length=8/\Cd ts (Ao σ)=true
    . rw [AU N] at f;have V:=BZ (ts:=ts) O.wf (Ap ts (Ao σ)).pos 5;have E:=Ci (n:=n) V.wf;exact absurd ((E.trans (EZ k _ _ E.wf)).ok f) (DQ Az)
    . rw [AE N] at f ⊢;have E:=Ci (n:=n) O.wf;by_cases X:acc.length=8
      . have L:Cd ts (Ao σ)=false:=by
         cases hh:Cd ts (Ao σ)
         . rfl
         . exact absurd ⟨X,hh⟩ N
        have Y:(Bu ts n (Ao σ)).2.err≠0:=by
         simp only [Cd,Bool.or_eq_false_iff] at L;unfold Bu;rw [AE (by simp [L.1.1]),AE (by simp [L.2]),AE (by simp [L.1.2])];exact Et
        exact absurd ((EZ k _ _ E.wf).ok f) Y
      . exact U _ _ E.wf f (by simp only [aU,aV,aX];omega)
  . rename_i F;rw [AE F];exact M
def K2 {k:Nat} {σ:PS} (h:σ.at_<=ts.length) (f:(De ts n k σ).2.err=0):(De ts n k σ).1.params.length<=8/\(De ts n k σ).1.body.size<=2000:=by
 rw [FV] at f ⊢;simp only at f ⊢;have L:=Aq (n:=n) (t:=[112,114,111,99]) h Az;have M:=L.trans (AM (n:=n) L.wf);have N:=M.trans (Aq (n:=n) (t:=[40]) M.wf Az);generalize AA ts n (A4 ts n (AA ts n σ [112,114,111,99])).2 [40]=V at *;have X:=FU (n:=n) (k:=k) N.wf;unfold EQ at f ⊢;simp only at f ⊢;have O:=JT f;refine ⟨?_,O.2.2⟩;have E:=((DR (ts:=ts) (n:=n) k).2.2.2.1 _ X.wf).ok O.1;unfold F7 at E ⊢;split at E
 . rename_i F;rw [AU F];exact bI _
 . rename_i F;rw [AE F];simp only at E ⊢;have U:=Ci (n:=n) N.wf;have Y:=EZ (n:=n) k [(Bu ts n V).1] _ U.wf;exact ON k _ _ U.wf ((Aq (n:=n) (t:=[41]) Y.wf Az).ok E) Bd
def QF (k:Nat) : ∀(acc:List PD) (σ:PS),σ.at_<=ts.length->(B5 ts n k acc σ).2.err=0->acc.length<=64->(∀p∈acc,p.params.length<=8/\p.body.size<=2000) ->
 (B5 ts n k acc σ).1.length<=64 /\ ∀p∈(B5 ts n k acc σ).1,p.params.length<=8/\p.body.size<=2000:=by
 induction k with
 | zero=>intro acc σ h f N M;rw [B5];exact ⟨N,M⟩
 | succ k U=>
  intro acc σ h f N M;rw [B5] at f ⊢;split at f
  . rename_i O;rw [AU O];simp only at f ⊢;by_cases E:acc.length=64
    . rw [AU E] at f;have V:=BZ (ts:=ts) h (Ap ts σ).pos 5;have F:=DS (n:=n) (k:=k) V.wf;exact absurd ((F.trans (DT k _ _ F.wf)).ok f) (DQ Az)
    . rw [AE E] at f ⊢;have F:=DS (n:=n) (k:=k) h;refine U _ _ F.wf f (by simp only [aU,aV,aX];omega) (fun p L=>?_);rcases List.mem_append.1 L with L|L
      . exact M p L
      . have:p=(De ts n k σ).1:=by simpa using L
        rw [this];exact K2 h ((DT k _ _ F.wf).ok f)
  . rename_i O;rw [AE O];exact ⟨N,M⟩
def NN {σ:PS} (h:(DK ts n σ).err=0):σ.err=0 /\ ¬ σ.at_<ts.length:=by
 unfold DK at h;split at h
 . exact absurd h Et
 . exact ⟨h,Ag⟩
def IU {k:Nat} {σ:PS} (h:σ.at_<=ts.length) (f:(BH ts n k σ).2.err=0) :
 (BH ts n k σ).1.vars.length<=32/\(BH ts n k σ).1.procs.length<=64/\(∀p∈(BH ts n k σ).1.procs,p.params.length<=8/\p.body.size<=2000)/\(BH ts n k σ).1.main.size<=2000:=by
 unfold BH at f ⊢;simp only at f ⊢;have E:=He (n:=n) k [] σ h;have F:=DT (n:=n) k [] _ E.wf;have L:=Aq (n:=n) (t:=[109,97,105,110]) F.wf Az;unfold EQ at f ⊢;simp only at f ⊢;have M:=JT f;have U:=((DR (ts:=ts) (n:=n) k).2.2.2.1 _ L.wf).ok M.1;have N:=L.ok U;have h1:=F.ok N;have O:=QF k _ _ E.wf N Bd Bd;exact ⟨RO k _ _ h h1 Bd,O.1,O.2,M.2.2⟩
end
mutual
def VU : ∀(t:Nd) (d m:Int),t.depth<=d->(t.size:Int)<=m->t.lim d m=(true,m-t.size)
 | .mk _ _ _ l,d,m,hd,hm=>by
  simp only [Nd.depth] at hd;simp only [Nd.size] at hm;have h0:0<=AT l:=K3 l;unfold Nd.lim;rw [AE Ab,NO l (d-1) (m-1) Ab Ab];simp only [Nd.size];congr 1;omega
def NO : ∀(l:List Nd) (d m:Int),AT l<=d->(Am l:Int)<=m->Cq l d m=(true,m-Am l)
 | [],d,m,_,_=>by simp [Cq,Am]
 | t::r,d,m,hd,hm=>by
  simp only [AT] at hd;simp only [Am] at hm;have h1:=VU t d m Ab Ab;unfold Cq;rw [h1];simp only [if_true];rw [NO r d _ Ab Ab];simp only [Am];congr 1;omega
def K3 : ∀l:List Nd,0<=AT l
 | []=>by simp [AT]
 | t::r=>by have:=K3 r;simp only [AT];omega
end
def XG {t:Nd} (f:t.depth<=80) (E:t.size<=2000) (h:t.isBlock=true):Eb t=true:=by
 unfold Eb;rw [VU t 80 2000 f Ab,h];rfl
section
variable {ts:List Tok} {n:Int}
def OO (U:BG ts) {σ:PS} (h:σ.at_<=ts.length) (E:(Bu ts n σ).2.err=0):(Bu ts n σ).1.ok=true:=by
 unfold Bu at E ⊢;split at E
 . rename_i f;rw [AU f];have F:=AN h f Az;obtain ⟨-,L⟩:=CQ (AB F).wf E;simp [VD.ok,L]
 . rename_i f;rw [AE f];split at E
   . rename_i f;rw [AU f];have F:=AN h f Az;obtain ⟨-,L⟩:=CQ (AB F).wf E;simp [VD.ok,L]
   . rename_i f;rw [AE f];split at E
     . rename_i f;rw [AU f];simp only at E ⊢;have F:=AN h f Az;have h1:=AB F;have V:=AM (n:=n) h1.wf;have M:=Aq (n:=n) (t:=[91]) V.wf Az;have N:=FA (n:=n) (a:=1) (b:=16) M.wf;have O:=(Aq (n:=n) (t:=[93]) N.wf Az).ok E;obtain ⟨-,L⟩:=CQ h1.wf (M.ok (N.ok O));obtain ⟨t,-,-,e,-,X,Y⟩:=MD U M.wf O;simp only [VD.ok,L,e];simp [X,Y]
     . exact absurd E Et
def MH {l:List VD} {v:VD} (h:C6 l=true) (f:v.ok=true):C6 (l++[v])=true:=by
 unfold C6 at *;simp [h,f]
def SK (N:BG ts) (k:Nat) : ∀(acc:List VD) (σ:PS),σ.at_<=ts.length->(Dl ts n k acc σ).2.err=0->C6 acc=true->C6 (Dl ts n k acc σ).1=true:=by
 induction k with
 | zero=>intro acc σ h f E;rw [Dl];exact E
 | succ k O=>
  intro acc σ h f E;rw [Dl] at f ⊢;split at f
  . rename_i F;rw [AU F];simp only at f ⊢;generalize U:(if acc.length=32 then Bw σ (Ap ts σ).pos 5 else σ)=V at *;have L:Le ts σ V:=by
     rw [<-U];split
     . exact BZ h _ _
     . exact eU h
    have M:=Ci (n:=n) L.wf;exact O _ _ M.wf f (MH E (OO N L.wf ((He k _ _ M.wf).ok f)))
  . rename_i F;rw [AE F];exact E
def Ub (N:BG ts) (k:Nat) : ∀(acc:List VD) (σ:PS),σ.at_<=ts.length->(Bo ts n k acc σ).2.err=0->C6 acc=true->C6 (Bo ts n k acc σ).1=true:=by
 induction k with
 | zero=>intro acc σ h f E;rw [Bo];exact E
 | succ k O=>
  intro acc σ h f E;rw [Bo] at f ⊢;split at f
  . rename_i F;rw [AU F];simp only at f ⊢;have h1:=AB (AN h F Az);generalize U:(if acc.length=8/\Cd ts (Ao σ)=true then Bw (Ao σ) (Ap ts (Ao σ)).pos 5 else Ao σ)=σ1 at *;have L:Le ts (Ao σ) σ1:=by
     rw [<-U];split
     . exact BZ h1.wf _ _
     . exact eU h1.wf
    have M:=Ci (n:=n) L.wf;exact O _ _ M.wf f (MH E (OO N L.wf ((EZ k _ _ M.wf).ok f)))
  . rename_i F;rw [AE F];exact E
def MI (E:BG ts) {k:Nat} {σ:PS} (h:σ.at_<=ts.length) (F:4*mS ts σ+8<=k) (f:(EQ ts n k σ).2.err=0):Eb (EQ ts n k σ).1=true:=by
 unfold EQ at f ⊢;simp only at f ⊢;obtain ⟨L,M,N⟩:=JT f;obtain ⟨a,-,O⟩:=(MG E k).2.2.2.1 σ h F L;exact XG M N (O.valid _ rfl)
def SL (N:BG ts) {k:Nat} {σ:PS} (h:σ.at_<=ts.length) (hk:4*mS ts σ+8<=k) (E:(De ts n k σ).2.err=0):(De ts n k σ).1.ok=true:=by
 have f:=(K2 h E).1;rw [FV] at E f ⊢;simp only at E f ⊢;have O:=Aq (n:=n) (t:=[112,114,111,99]) h Az;have V:=AM (n:=n) O.wf;have F:=Aq (n:=n) (t:=[40]) V.wf Az;have M:=FU (n:=n) (k:=k) F.wf;have lb:=GC (n:=n) (k:=k) M.wf;have m:=BC (((O.trans V).trans F).trans M);have hb:=MI N M.wf Ab E;have L:=lb.ok E;have e3:=M.ok L;obtain ⟨-,hm⟩:=CQ O.wf (F.ok e3);have hp:C6 (F7 ts n k (AA ts n (A4 ts n (AA ts n σ [112,114,111,99])).2 [40])).1=true:=by
  unfold F7 at L ⊢;split at L
  . rename_i U;rw [AU U];rfl
  . rename_i U;rw [AE U];simp only at L ⊢;have X:=Ci (n:=n) F.wf;have Y:=EZ (n:=n) k [(Bu ts n (AA ts n (A4 ts n (AA ts n σ [112,114,111,99])).2 [40])).1] _ X.wf;have Z:=(Aq (n:=n) (t:=[41]) Y.wf Az).ok L;refine Ub N k _ _ X.wf Z ?_;unfold C6;simp [OO N F.wf (Y.ok Z)]
 simp only [PD.ok,hm,hp,hb,Bool.and_true,Bool.true_and];exact decide_eq_true f
def VV (O:BG ts) (k:Nat) : ∀(acc:List PD) (σ:PS),σ.at_<=ts.length->(σ.err=0->4*mS ts σ+9<=k)->(B5 ts n k acc σ).2.err=0->acc.all PD.ok=true->(B5 ts n k acc σ).1.all PD.ok=true:=by
 induction k with
 | zero=>intro acc σ h M f F;rw [B5];exact F
 | succ k U=>
  intro acc σ h M f F;rw [B5] at f ⊢;split at f
  . rename_i L;rw [AU L];simp only at f ⊢;have V:=(AN h L Az).1;have X:=M V;by_cases c:acc.length=64
    . rw [AU c] at f;exfalso;have Y:=BZ (ts:=ts) h (Ap ts σ).pos 5;have E:=DS (n:=n) (k:=k) Y.wf;exact absurd ((E.trans (DT k _ _ E.wf)).ok f) (DQ Az)
    . rw [AE c] at f ⊢;have E:=DS (n:=n) (k:=k) h;have N:=(DT k (acc++[(De ts n k σ).1]) _ E.wf).ok f;have Z:=RN E (JF h) N;refine U _ _ E.wf (fun _=>by omega) f ?_;rw [List.all_append,F];simp [SL O h Ab N]
  . rename_i L;rw [AE L];exact F
def RP (L:BG ts) {k:Nat} {σ:PS} (h:σ.at_<=ts.length) (hk:4*mS ts σ+9<=k) (f:(BH ts n k σ).2.err=0):(BH ts n k σ).1.ok=true:=by
 obtain ⟨M,N,-,-⟩:=IU h f;unfold BH at f M N ⊢;simp only at f M N ⊢;have E:=He (n:=n) k [] σ h;have O:=DT (n:=n) k [] _ E.wf;have F:=Aq (n:=n) (t:=[109,97,105,110]) O.wf Az;have V:=GC (n:=n) (k:=k) F.wf;have X:=V.ok f;have U:=F.ok X;have Y:=O.ok U;have m1:=BC E;have m3:=BC ((E.trans O).trans F);have Z:=SK L k [] σ h Y rfl;have hp:=VV L k [] _ E.wf (fun _=>by omega) U rfl;have hb:=MI L F.wf Ab f;simp only [PG.ok,Z,hp,hb,Bool.and_true];simp [M,N]
def SM (n:Int) (σ:PS):Prop:=σ.err≠0->0<=σ.off/\σ.off<=n
def GM {σ:PS} {off e:Int} (f:0<=off) (h1:off<=n) (i:SM n σ):SM n (Bw σ off e):=by
 unfold Bw;split
 . exact fun _=>⟨f,h1⟩
 . exact i
def XH (hn:0<=n) (hp : ∀t∈ts,0<=t.pos/\t.pos<=n):CloL ts n (SM n) where
 next:=fun σ _ i=>i
 unexp:=fun σ h i=>by
  unfold CU;split
  . rename_i hl;rw [dC,aY hl];exact GM (hp _ (bD hl)).1 (hp _ (bD hl)).2 i
  . exact GM hn (Int.le_refl _) i
 full:=fun σ h i=>GM (hp _ (GL h.2 h.1)).1 (hp _ (GL h.2 h.1)).2 i
 range:=fun σ h i=>GM (hp _ (GL h.2 h.1)).1 (hp _ (GL h.2 h.1)).2 i
 lim:=fun σ x τ h i j=>by
  have hq:0<=(Ap ts σ).pos/\(Ap ts σ).pos<=n:=by
   by_cases c:σ.err≠0\/σ.at_=ts.length
   . have:Ap ts σ=Tok.zero:=by unfold Ap;rw [AU c]
     rw [this];exact ⟨Az,hn⟩
   . exact hp _ (GL Ab Ab)
  unfold D8;split
  . exact j
  . split
    . exact GM hq.1 hq.2 j
    . split
      . exact GM hq.1 hq.2 j
      . exact j
end
def NP (s:lB) : ∀(k p:Nat) (acc:List Tok) (q:Nat),(EF k s p acc).2=some q->q<=s.length
 | 0,p,acc,q,h=>by rw [EF] at h;cases h
 | k+1,p,acc,q,h=>by
  rw [EF] at h;split at h
  . rename_i f;split at h
    . cases h;omega
    . exact NP s k _ _ q h
  . cases h
def Uc (s:lB):SM s.length (Cn s).2:=by
 intro _;show 0<=(Gp s).2.1/\(Gp s).2.1<=(s.length:Int);unfold Gp;split
 . show (0:Int)<=0/\(0:Int)<=(s.length:Int);omega
 . split
   . show (0:Int)<=0/\(0:Int)<=(s.length:Int);omega
   . rename_i l p f;have:=NP s _ _ _ p (by rw [f]);show (0:Int)<=(p:Int)/\(p:Int)<=(s.length:Int);omega
def Ud (s:lB) : ∀t∈(Cn s).1,0<=t.pos/\t.pos<=s.length:=fun t f=>(JG s t f).pos
def La (s:lB):((Bf s).2.2=0->(Bf s).1.ok=true/\(Bf s).2.1=0)/\((Bf s).2.2≠0->(Bf s).1=⟨[],[],BI⟩/\0<=(Bf s).2.1/\(Bf s).2.1<=s.length):=by
 have F:=IB s;have L:mS (Cn s).1 (Cn s).2<=(Cn s).1.length:=by unfold mS;split<;>omega
 have f:(Cn s).2.at_<=(Cn s).1.length:=bI _;unfold Bf;simp only;split
 . rename_i h;refine ⟨fun e=>absurd e h,fun _=>⟨rfl,?_⟩⟩;have C:=XH (ts:=(Cn s).1) (n:=s.length) Ab (Ud s);have E:=PZ (n:=s.length) (k:=Gq s) f;exact C.toClo.finish E.wf (C.program f (Uc s)) h
 . rename_i h;refine ⟨fun _=>⟨?_,rfl⟩,fun e=>absurd rfl e⟩;exact RP (GD s) f (by unfold Gq;omega) (NN (by simpa using h)).1
end Bk
