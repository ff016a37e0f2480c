/- Texts that the proofs of InverterReturns need. No condition. (Part 8 of 8.) -/
import Derived.Test.YtipjiidkdllbpaaGreatDoorPRtn7
set_option linter.unusedSimpArgs false
set_option linter.unusedVariables false
set_option linter.defProp false
set_option maxRecDepth 100000
set_option maxHeartbeats 4000000
open Go.Proofs.Tryz
open List renaming getElem?_eq_getElem->bT,getD_eq_getElem?_getD->cB,length_cons->cF,getElem?_eq_none->cI,getElem?_append_left->cK,getElem_mem->cL,length_append->cP,getElem?_append_right->cW,take_length->dB,length_nil->dD,getElem?_cons_zero->dF,take_succ_eq_append_getElem->dG,drop_eq_getElem_cons->dH,replicate->dJ,mem_of_getElem?->dL,append_assoc->dP,mem_cons->dQ,getElem?_map->dZ,length_take->eH,not_mem_nil->eP
open Go.Lib renaming hid->bU
open Or renaming inl->bW,inr->bX
open Bool renaming and_eq_true->bZ,false_eq_true->dK
open Option.some renaming inj->cD,injEq->cE
open Go.Result renaming andThen->cG
open Nat renaming le_refl->cH,lt_or_ge->cO,zero_le->cQ,blt->cV,le_of_ble_eq_true->dE,eq_of_beq_eq_true->dO,le_trans->dV,ble->dW,beq->eC,zero_add->eJ
open Except renaming bind->cJ
open Go.Sem renaming run_bind->cU,run_pure->dC
open Go renaming Calls->cX
open Go.Value renaming slice->cY,int->dM,ownBlock->eR
open Go.Region renaming ready->cZ,binds->dT
open Go.IntWalk renaming i64_in->dA
open Go.Value.slice renaming injEq->dI
open Go.DataW renaming trod->dN
open Go.Builtin renaming zeroCells->dR
open List.cons renaming injEq->dU
open Array renaming getElem?_eq_none->dX,replicate->eO
open Go.Calls renaming mono->dY
open Go.Addr renaming add->eG
open Go.Oper renaming wp->eL
open Bk.Ext renaming refl->eU,fr->gE
open Bk.Nd.sits renaming fr->eW
open Bk.Blk renaming fr->fB
open Bk.Nd renaming size->fF,kind->fS
open Bk.Stp renaming transfer->fM,setCur->fU,items->fZ,move->gF,leaves->gG,enters->gJ
namespace Bk
open Go Go.RowKit Go.Proofs
structure Few5 (g:PG):Prop where
 nv:g.vars.length<=8
 np:g.procs.length<=5
 main:(g.main.small 24 200).1=true
 procs : ∀p∈g.procs,(p.body.small 24 200).1=true
def YI (g:PG) (S:nP) (va:oA) (vc:Nat) (pa:oA) (pc:Nat) (ma:oA) (mc:Nat) (w:wD) (O:g.wf) (hs:g.sits S w va pa ma) :
 Calls prog 22 #[.agg (g.cells va vc pa pc ma mc).toArray] w fun e w'=> ∃q:Int,e = .returned (.int .i64 q)/\(q=1\/(q=0/\Few5 g))/\Ext w w':=by
 have ah:=O.nv;have ai:=O.np;refine Ac func22 ntmps22 rfl rfl ?_;refine eK ?_;refine Kj rfl rfl rfl ?_;intro b1 w1 aa;have h1:=aa.blk;have x1:=aa.ext;by_cases c1:8<g.vars.length
 . refine C1 Pa (Ak (Ag (Ai (Ai (Aj (C1 Pg (C1 Hu (C1 Pz (C1 V5 (C1 Mv (AZ rfl rfl rfl Ab rfl ?_)))))))))));refine AZ rfl rfl rfl Ab rfl (AZ rfl rfl rfl Ab rfl (AZ rfl rfl rfl Ab rfl (C1 SG (C1 Mv (Bm rfl rfl rfl (rfl) rfl (Bm rfl rfl rfl (rfl) rfl (Bm rfl rfl rfl (rfl) rfl (C1 (B6 rfl rfl rfl) (Ak (Ag (EF rfl (by rfl) ?_)))))))))));refine eK ?_;refine AM results22 rfl ?_;exact ⟨1,rfl,bW rfl,x1⟩
 by_cases c2:5<g.procs.length
 . refine C1 Pa (Ak (Ag (Ai (Ai (Aj (C1 Pg (C1 Hu (C1 Pz (C1 V5 (C1 Mv (AP rfl rfl rfl Ab ?_)))))))))));refine C1 Pf (AP rfl rfl rfl Ab (C1 Hu (AP rfl rfl rfl Ab (C1 Pz (AP rfl rfl rfl Ab (C1 V5 (C1 Jq (C1 Mv (AZ rfl rfl rfl Ab rfl (AZ rfl rfl rfl Ab rfl (AZ rfl rfl rfl Ab rfl ?_)))))))))));refine C1 SG (Ak (Ag (EF rfl (by rfl) ?_)));refine eK ?_;refine AM results22 rfl ?_;exact ⟨1,rfl,bW rfl,x1⟩
 refine C1 Pa (Ak (Ag (Ai (Ai (Aj (C1 Pg (C1 Hu (C1 Pz (C1 V5 (C1 Mv (AP rfl rfl rfl Ab ?_)))))))))));refine C1 Pf (AP rfl rfl rfl Ab (C1 Hu (AP rfl rfl rfl Ab (C1 Pz (AP rfl rfl rfl Ab (C1 V5 (C1 Jq (C1 Mv (AP rfl rfl rfl Ab (C1 Pf (AP rfl rfl rfl Ab ?_)))))))))));refine CD (by exact DH Ad rfl rfl rfl (by exact fun wz hz=>by (try subst hz);assumption) (by rfl)) rfl ?_;refine AP rfl rfl rfl Ab (cC rfl (Tk g.main O.main S ma mc _ (hs.main.ext x1)) ?_);rintro _ w2 ⟨⟨⟩,x2⟩;cases hq:(g.main.small 24 200).1
 . try rw [hq]
   refine C1 Jq (Ak (Ag (EF rfl (by rfl) ?_)));refine eK ?_;refine AM results22 rfl ?_;exact ⟨1,rfl,bW rfl,x1.trans x2⟩
 try rw [hq]
 have h2:=h1.ext x2;have ad:Ext w w2:=x1.trans x2;refine C1 Jq (Ak (Ag (FK rfl (by rfl) ?_)));refine eK ?_;refine A1 (ι:=Nat) (fun j=>[(27,.int .i64 j),(26,.int .i64 g.vars.length),(25,.slice va g.vars.length vc),(1,.pointer (some ⟨b1,0,none⟩))]) (fun j w'=>Ext w2 w'/\j<=g.vars.length) (fun j=>g.vars.length-j) 0 sB ⟨eU _,Ab⟩ ?_;rintro j w3 ⟨x3,hj⟩;have h3:=h2.ext x3;have Y:Ext w w3:=ad.trans x3;by_cases ae:j<g.vars.length
 . obtain ⟨kb,ko,rfl,-,G⟩:=Arr.get (hs.vars.ext Y) Ab;have rx:Row w3 ⟨kb,ko+j*3,none⟩ g.vars[j].cells:=G j g.vars[j] (bT ae);clear G;generalize g.vars[j]=v at *;refine eK ?_;refine Fj CY rfl rfl ?_;intro b5 w5 F;refine Gg Ad rfl rfl rfl rfl rfl rfl (F) rfl ?_;clear F w5;intro w5 F;have h5:=F.blk;have U:=F.ext;by_cases c3:40<v.name.length
   . refine eK ?_;refine AM results22 rfl ?_;exact ⟨1,rfl,bW rfl,Y.trans U⟩
   . refine Ak (Ag (Ai (Aj (C1 Pg (C1 Hu (C1 Py (C1 V5 (Ak (Ag (Ds (Am ?_)))))))))));refine Af (Ag (Aj (C1 V7 (C1 Mv (Ak ?_)))));exact AI (j+1) sB ⟨x3.trans U,Ab⟩ Ab
 refine eK ?_;refine A1 (ι:=Nat) (fun j=>[(39,.int .i64 j),(38,.int .i64 g.procs.length),(37,.slice pa g.procs.length pc)]) (fun j w'=>Ext w3 w'/\j<=g.procs.length /\ ∀i p,g.procs[i]? = some p->i<j->(p.body.small 24 200).1=true) (fun j=>g.procs.length-j) 0 sB ⟨eU _,Ab,fun i p _ h=>absurd h Ab⟩ ?_;rintro j w4 ⟨x4,aj,V⟩;have L:Ext w w4:=Y.trans x4;by_cases M:j<g.procs.length
 . obtain ⟨kb,ko,rfl,-,G⟩:=Arr.get (hs.procs.ext L) Ab;obtain ⟨qa,qc,ba,bc,rx,sv,sb⟩:=G j g.procs[j] (bT M);have ab:=O.procs g.procs[j] (cL M);clear G;have af:g.procs[j]? = some g.procs[j]:=bT M;generalize g.procs[j]=p at *;have ak:=ab.len;refine eK ?_;refine Fj CY rfl rfl ?_;intro b5 w5 F;refine Gg Ad rfl rfl rfl rfl rfl rfl (F) rfl ?_;clear F w5;intro w5 F;have h5:=F.blk;have U:=F.ext;by_cases c3:10<p.params.length
   . refine Ak (Ag (Ai (Ai (Aj (C1 Pf (C1 Hu (C1 Pz (C1 V5 (C1 Mv (AZ rfl rfl rfl Ab rfl (AZ rfl rfl rfl Ab rfl ?_)))))))))));refine AZ rfl rfl rfl Ab rfl (AZ rfl rfl rfl Ab rfl (C1 SG (C1 Mv (Bm rfl rfl rfl (rfl) rfl (Bm rfl rfl rfl (rfl) rfl (Bm rfl rfl rfl (rfl) rfl (C1 (B6 rfl rfl rfl) (Ak (Ag (EF rfl (by rfl) ?_))))))))));refine eK ?_;refine AM results22 rfl ?_;exact ⟨1,rfl,bW rfl,L.trans U⟩
   by_cases c4:40<p.name.length
   . refine Ak (Ag (Ai (Ai (Aj (C1 Pf (C1 Hu (C1 Pz (C1 V5 (C1 Mv (AP rfl rfl rfl Ab (C1 Pg ?_)))))))))));refine AP rfl rfl rfl Ab (C1 Hu (AP rfl rfl rfl Ab (C1 Py (AP rfl rfl rfl Ab (C1 V5 (C1 Jq (C1 Mv (AZ rfl rfl rfl Ab rfl (AZ rfl rfl rfl Ab rfl (AZ rfl rfl rfl Ab rfl (C1 SG ?_)))))))))));refine Ak (Ag (EF rfl (by rfl) ?_));refine eK ?_;refine AM results22 rfl ?_;exact ⟨1,rfl,bW rfl,L.trans U⟩
   refine Ak (Ag (Ai (Ai (Aj (C1 Pf (C1 Hu (C1 Pz (C1 V5 (C1 Mv (AP rfl rfl rfl Ab (C1 Pg ?_)))))))))));refine AP rfl rfl rfl Ab (C1 Hu (AP rfl rfl rfl Ab (C1 Py (AP rfl rfl rfl Ab (C1 V5 (C1 Jq (C1 Mv (AP rfl rfl rfl Ab (C1 Pf (AP rfl rfl rfl Ab ?_))))))))));refine CD (by exact DH Ad rfl rfl rfl (by exact fun wz hz=>by (try subst hz);assumption) (by rfl)) rfl ?_;refine AP rfl rfl rfl Ab (cC rfl (Tk p.body ab.body S ba bc _ (sb.ext U)) ?_);rintro _ w6 ⟨⟨⟩,x6⟩;cases hq2:(p.body.small 24 200).1
   . try rw [hq2]
     refine C1 Jq (Ak (Ag (EF rfl (by rfl) ?_)));refine eK ?_;refine AM results22 rfl ?_;exact ⟨1,rfl,bW rfl,L.trans (U.trans x6)⟩
   try rw [hq2]
   have h6:=h5.ext x6;have ag:Ext w4 w6:=U.trans x6;refine C1 Jq (Ak (Ag (FK rfl (by rfl) ?_)));refine eK ?_;refine A1 (ι:=Nat) (fun i=>[(61,.int .i64 i),(60,.int .i64 p.params.length),(59,.slice qa p.params.length qc),(39,.int .i64 j),(38,.int .i64 g.procs.length),(37,.slice (some ⟨kb,ko,none⟩) g.procs.length pc)]) (fun i w'=>Ext w6 w'/\i<=p.params.length) (fun i=>p.params.length-i) 0 sB ⟨eU _,Ab⟩ ?_;rintro i w7 ⟨x7,hi⟩;have Z:Ext w4 w7:=ag.trans x7;by_cases ac:i<p.params.length
   . obtain ⟨vb,vo,rfl,-,X⟩:=Arr.get (sv.ext Z) Ab;have rv:Row w7 ⟨vb,vo+i*3,none⟩ p.params[i].cells:=X i p.params[i] (bT ac);clear X;generalize p.params[i]=v at *;refine eK ?_;refine Fj CY rfl rfl ?_;intro b8 w8 N;refine Gg Ad rfl rfl rfl rfl rfl rfl (N) rfl ?_;clear N w8;intro w8 N;have h8:=N.blk;have x8:=N.ext;by_cases c5:40<v.name.length
     . refine eK ?_;refine AM results22 rfl ?_;exact ⟨1,rfl,bW rfl,L.trans (Z.trans x8)⟩
     . refine Ak (Ag (Ai (Aj (C1 Pg (C1 Hu (C1 Py (C1 V5 (Ak (Ag (Ds (Am ?_)))))))))));refine Af (Ag (Aj (C1 V7 (C1 Mv (Ak ?_)))));exact AI (i+1) sB ⟨x7.trans x8,Ab⟩ Ab
   . refine Ai (Aj (C1 V3 (Ak (Ag (Ai (Ds (Eg (A8 (A8 (BQ (Af ?_)))))))))));refine Ag (Aj (C1 V7 (C1 Mv (Ak ?_))));exact AI (j+1) sB ⟨x4.trans Z,Ab,fun i q hi al=>by
      by_cases h:i<j
      . exact V i q hi h
      . obtain rfl:i=j:=by omega
        rw [af] at hi;rw [<-cD hi];exact hq2⟩ Ab
 . refine eK ?_;refine AM results22 rfl ?_;refine ⟨0,rfl,bX ⟨rfl,⟨Ab,Ab,hq,fun p hp=>?_⟩⟩,L⟩;obtain ⟨i,hi,rfl⟩:=List.mem_iff_getElem.1 hp;exact V i _ (bT hi) Ab
attribute [local irreducible] Go.Calls
def aw17A:Nd:=.mk 57 0 [] [.mk 40 0 [] [.mk 2 0 [120] [],.mk 1 1 [] []],.mk 50 0 [102] [.mk 2 0 [120] []]]
def aw17B:Nd:=.mk 57 0 [] [.mk 51 0 [102] [.mk 2 0 [120] []],.mk 41 0 [] [.mk 2 0 [120] [],.mk 1 1 [] []]]
def aw17C:Nd:=.mk 57 0 [] [.mk 43 0 [] [.mk 2 0 [120] [],.mk 2 0 [121] []]]
def aC:E1 [120,32,43,61,32,49,59,10,99,97,108,108,32,102,40,120,41,59,10]=(aw17A,0,0):=by kernel_rfl
def aD:E1 [117,110,99,97,108,108,32,102,40,120,41,59,10,120,32,45,61,32,49,59,10]=(aw17B,0,0):=by kernel_rfl
def aE:E1 [120,32,60,61,62,32,121,59,10]=(aw17C,0,0):=by kernel_rfl
def aF:aw17A.inv false=aw17B:=by kernel_rfl
def Q6:aw17A.wf:=by simp [aw17A,Nd.wf,C9]
def WL:aw17C.wf:=by simp [aw17C,Nd.wf,C9]
def Q7:aw17A.isBlock=true:=by decide +kernel
def WM:aw17C.isBlock=true:=by decide +kernel
def MO:aw17A.size<=1000000:=by decide +kernel
def St:aw17B.size<=1000000:=by decide +kernel
def Su:aw17C.size<=1000000:=by decide +kernel
def aG:aw17B.eqb aw17B=true:=(SM _ _).2 rfl
def aH:aw17C.eqb (aw17C.inv false)=true:=by kernel_rfl
def aI:aw17A.eqb (aw17A.inv false)=false:=by kernel_rfl
def GR (w:wD) (N:Syms w) (O:Errs w):Calls prog 6 #[] w fun e w'=>e = .returned (.bool true)/\Ext w w':=by
 have X:=eU w;have HA:=bU (fun w=>OK [120,32,43,61,32,49,59,10,99,97,108,108,32,102,40,120,41,59,10] w AY);have HB:=bU (fun w=>OK [117,110,99,97,108,108,32,102,40,120,41,59,10,120,32,45,61,32,49,59,10] w AY);have HC:=bU (fun w=>OK [120,32,60,61,62,32,121,59,10] w AY);rw [aC] at HA;rw [aD] at HB;rw [aE] at HC;have HI:=bU (XO Q6 MO (bX Q7));rw [aF] at HI;have HE:=bU (Qk aw17B St aw17B);rw [aG] at HE;have HP:=bU (SW WL Su WM);rw [aH] at HP;have HQ:=bU (SW Q6 MO Q7);rw [aI] at HQ;generalize aw17A=A at *;generalize aw17B=B at *;generalize aw17C=C at *;refine Ac (args:=[]) func6 ntmps6 rfl rfl ?_;refine eK ?_;refine eQ rfl (HA.out _ Ae Ae) ?_;rintro _ w5 ⟨a1,⟨k2,⟨⟨⟩,⟨U,x4⟩⟩⟩⟩;revert N O X;refine eY x4 ?_;intro z6 N O X;refine eK ?_;refine xA [_,_,_,_] ?_;intro b7 w8 n9;refine Dd [_,_,_,_] Ad rfl rfl rfl rfl rfl rfl n9 rfl ?_;intro am n9;have h:=n9.blk;dsimp only at h;have ac:=n9.ext;have an:=n9.pos;have ao:=n9.size;revert U N O X;refine eE ac ?_;intro U N O X;refine eK ?_;refine eQ rfl (HB.out _ Ae Ae) ?_;rintro _ ap ⟨aq,⟨ar,⟨⟨⟩,⟨F,ad⟩⟩⟩⟩;revert h U N O X;refine eY ad ?_;intro z20 h U N O X;refine eK ?_;refine xA [_,_,_,_] ?_;intro au av Y;refine Dd [_,_,_,_] Ad rfl rfl rfl rfl rfl rfl Y rfl ?_;intro aw Y;have G:=Y.blk;dsimp only at G;have ae:=Y.ext;have ax:=Y.pos;have z28:=Y.size;revert F h U N O X;refine eE ae ?_;intro F h U N O X;refine eK ?_;refine eQ rfl (HC.out _ Ae Ae) ?_;rintro _ ay ⟨az,⟨a0,⟨⟨⟩,⟨L,af⟩⟩⟩⟩;revert G F h U N O X;refine eY af ?_;intro a2 G F h U N O X;refine eK ?_;refine xA [_,_,_,_] ?_;intro a3 a4 Z;refine Dd [_,_,_,_] Ad rfl rfl rfl rfl rfl rfl Z rfl ?_
 intro a5 Z;have M:=Z.blk;dsimp only at M;have ag:=Z.ext;have a6:=Z.pos;have a7:=Z.size;revert L G F h U N O X;refine eE ag ?_;intro L G F h U N O X;refine eK ?_;refine eQ rfl (HI.out _ _ _ _ Ae) ?_;rintro _ a8 ⟨a9,⟨ba,⟨⟨⟩,⟨V,ah⟩⟩⟩⟩;revert M L G F h U N O X;refine eY ah ?_;intro bb M L G F h U N O X;refine eK ?_;refine xA [_,_,_,_] ?_;intro bc bd ai;refine eI [_,_,_,_] ai ?_;intro be aa aj bf bg;revert V M L G F h U N O X;refine eE aj ?_;intro V M L G F h U N O X;refine C1 Pa (cN (C1 Mv (C1 V1 (C1 Mv (Bh rfl rfl rfl (Cq (rfl)) (C1 Mv (Bh rfl rfl rfl (Cq (rfl)) (C1 V1 (C1 (Qy (rfl)) (C1 Mv (Bh rfl rfl rfl (Cq (rfl)) ?_)))))))))));refine C1 Mv (Bh rfl rfl rfl (Cq (rfl)) (C1 V1 (C1 (Qy (rfl)) (C1 Mv (Bh rfl rfl rfl (Cq (rfl)) (C1 Mv (Bh rfl rfl rfl (Cq (rfl)) (C1 V1 (C1 (Qy (rfl)) ?_)))))))));refine eK ?_;refine cC rfl (HE.out _ _ _ _ _ _ _ Ae Ae) ?_;rintro _ bh ⟨⟨⟩,ak⟩;revert aa V M L G F h U N O X;refine eY ak ?_;intro bi aa V M L G F h U N O X;refine eK ?_;refine cC rfl (HP.out _ _ _ _ Ae) ?_;rintro _ bj ⟨⟨⟩,ab⟩;have bk:=ab.size;revert aa V M L G F h U N O X;refine eE ab ?_;intro aa V M L G F h U N O X;refine eK ?_;refine cC rfl (HQ.out _ _ _ _ Ae) ?_;rintro _ Ko ⟨⟨⟩,al⟩;revert aa V M L G F h U N O X;refine eY al ?_;intro bl aa V M L G F h U N O X;refine eK ?_;refine xR ?_
 exact ⟨rfl,X⟩
def WN {g:PG} (F:g.wf) (S:nP) (G:oA) (vc:Nat) (L:oA) (N:Nat) (M:oA) (O:Nat) (w:wD) (U:g.sits S w G L M) :
 Calls prog 22 #[.agg (g.cells G vc L N M O).toArray] w fun e w'=> ∃q:Int,e = .returned (.int .i64 q)/\Ext w w':=(YI g S G vc L N M O w F U).mono fun _ _ ⟨q,h,_,x⟩=>⟨q,h,x⟩
def UT {g:PG} (ae:g.wf) (s:SV) (S:nP) (N:oA) (vc:Nat) (O:oA) (pc:Nat) (U:oA) (mc:Nat) (ca ta oa:oA) (cc tc oc:Nat) (w:wD) (G:g.sits S w N O U) (hv:s.sits S w ca ta oa) :
 Calls prog 7 #[.agg (g.cells N vc O pc U mc).toArray,.agg (s.row ca cc ta tc oa oc).toArray] w fun e w'=> ∃q:Int,e = .returned (.int .i64 q)/\(40<s.cells.length->q=1)/\Ext w w':=by
 have X:=eU w;have G:=G.ltA;have hv:=hv.ltA;have HG:=bU (fun w1 h=>WN ae (· < w.heap.size) N vc O pc U mc w1 h);obtain ⟨cells,tin,tout⟩:=s;obtain ⟨F,-,-⟩:=hv;simp only at F ⊢;change Calls prog _ #[_,.agg #[.slice ca cells.length cc,.slice ta tin.length tc,.slice oa tout.length oc]] w _;by_cases e1:cells.length<=40
 . by_cases e2:tin.length<=40
   . by_cases e3:tout.length<=40
     . refine Ac func7 ntmps7 rfl rfl ?_;refine cS (eB [_,_,_,_,_,_] ?_);intro b1 w2 M x5 p6 z7;revert X G F;refine eE x5 ?_;intro X G F;refine eB [_,_,_] ?_;intro b8 w9 L af av aw;revert M X G F;refine eE af ?_;intro M X G F;refine C1 Pa (cT (Ai (cS (C1 Pg (C1 (Pl L) (C1 Pz (C1 V5 (C1 Mv (EB (C1 Pf (EB ?_)))))))))));refine C1 (Pl L) (EB (C1 Pz (EB (C1 V5 (C1 Jq (C1 Mv (EB (C1 Pf (EB (C1 (Pl L) (EB ?_)))))))))));refine C1 Pz (EB (C1 V5 (C1 Jq (cT (Ds (Am (Ag (Ai (cS (C1 Pg (C1 (Pl L) ?_)))))))))));refine C1 Pz (C1 Mv (cT ?_));refine Av ?_;have ax:w.heap.size+1<w9.heap.size+1:=by omega
       refine A1 (ι:=Nat) (fun j=>[(2,.pointer (some ⟨b1,0,none⟩)),(24,.slice ca cells.length cc),(25,.int .i64 cells.length),(26,.int .i64 j)])
        (fun j w'=>j<=cells.length/\ICs (· < w.heap.size) w' cells ca/\Blk w' b1 (g.cells N vc O pc U mc)/\g.sits (· < w.heap.size) w' N O U/\Ext w w') (fun j=>cells.length-j) 0 sB ⟨cQ _,F,M,G,X⟩ ?_
       clear F M G X;rintro j w1 ⟨hj,F,M,G,X⟩;by_cases V:j<cells.length
       . obtain ⟨db,ay,rfl,dS,hd⟩:=F.get (by intro e;subst e;simp at V);obtain ⟨xa,xc,ry,-⟩:=hd j _ (bT V);clear hd;generalize cells[j]=xs at *;by_cases e4:xs.length<=40
         . refine cS (C1 V3 (cT (Ai (Vf (Am (Ag (Ai (Av (cS (C1 Pi (C1 (TA ry) ?_)))))))))));refine C1 Pa (cN (C1 Mv (C1 Pz (C1 V5 (cT (Ds (Am (Af (Ag (Aj (C1 V7 ?_)))))))))));refine C1 Mv (Ak ?_);exact AI (j+1) sB ⟨Ab,F,M,G,X⟩ Ab
         . refine eK ?_;refine xR ?_;exact ⟨_,rfl,fun h=>by omega,X⟩
       . refine eK ?_;refine AC (AU A9 rfl (HG.out _ Ae) (fun _ _ ⟨_,h⟩=>⟨_,h.1⟩)) rfl ?_ aFh;rintro _ az ⟨a0,⟨⟨⟩,ag⟩⟩;revert F M G X;refine eY ag ?_;intro a1 F M G X;refine eK ?_;refine xR ?_;exact ⟨_,rfl,fun h=>by omega,X⟩
     . refine Ac func7 ntmps7 rfl rfl ?_;refine cS (eB [_,_,_,_,_,_] ?_);intro a2 a3 Y ah a4 a5;revert X G F;refine eE ah ?_;intro X G F;refine eB [_,_,_] ?_;intro a6 a7 ak Z al am;revert Y X G F;refine eE Z ?_;intro Y X G F;refine eK ?_;refine xR ?_;exact ⟨_,rfl,fun _=>rfl,X⟩
   . refine Ac func7 ntmps7 rfl rfl ?_;refine cS (eB [_,_,_,_,_,_] ?_);intro a8 a9 aa ai ba bb;revert X G F;refine eE ai ?_;intro X G F;refine eB [_,_,_] ?_;intro bc bd an ab ao ap;revert aa X G F;refine eE ab ?_;intro aa X G F;refine eK ?_;refine xR ?_;exact ⟨_,rfl,fun _=>rfl,X⟩
 . refine Ac func7 ntmps7 rfl rfl ?_;refine cS (eB [_,_,_,_,_,_] ?_);intro be bf ac aj bg bh;revert X G F;refine eE aj ?_;intro X G F;refine eB [_,_,_] ?_;intro bi bj aq ad ar au;revert ac X G F;refine eE ad ?_;intro ac X G F;refine eK ?_;refine xR ?_;exact ⟨_,rfl,fun _=>rfl,X⟩
def WO {g:PG} (h:g.ok=true) (d:Nat) (b:Bool) (r:Rn):AD (Au (g.inv id false).procs d) b (g.inv id false).main r=AD (Au g.procs d) (!b) g.main r:=by
 have F:=Uy false (Wc h) d b (JV h);rw [PG.inv_id];exact congrFun F r
def PG.sits.tt {S:nP} {w:wD} {g:PG} {F G L:oA} (h:g.sits S w F G L):g.sits (fun _=>True) w F G L:=⟨h.vars.wide fun _ _=>trivial,PDs.wide h.procs fun _ _=>trivial,Nd.sits.wide h.main fun _ _=>trivial⟩
structure FrmS (ρ:Nat->nP) (f g:Frm):Prop where
 vars:f.vars=g.vars
 locals:f.locals=g.locals
 len:f.cells.length=g.cells.length
 cell : ∀(i c d:Nat),f.cells[i]? = some c->g.cells[i]? = some d->ρ c d
structure Sim (ρ:Nat->nP) (a b:Stp):Prop where
 base:FrmS ρ a.base b.base
 nc:a.calls.length=b.calls.length
 call : ∀(i:Nat) (f g:Frm),a.calls[i]? = some f->b.calls[i]? = some g->FrmS ρ f g
 tin:a.tin=b.tin
 tout:a.tout=b.tout
 items : ∀c d,ρ c d->a.items c=b.items d
 lt : ∀c d,ρ c d->c<a.heap.length/\d<b.heap.length
 inj : ∀c d c' d',ρ c d->ρ c' d'->(c=c'↔d=d')
def Vis (st:Stp) (s:lB) (d:Nat):Prop:= ∃i:Nat,BR s st.cur.vars=some i/\st.cur.cells[i]? = some d
section
variable {ρ:Nat->nP} {a b st:Stp} {s:lB} {c d:Nat}
def FrmS.get {f g:Frm} (h:FrmS ρ f g) {i d:Nat} (e:g.cells[i]? = some d) : ∃c,f.cells[i]? = some c/\ρ c d:=by
 have F:=(List.getElem?_eq_some_iff.1 e).1;have G:f.cells[i]? = some (f.cells[i]'(by rw [h.len];exact F)):=bT (by rw [h.len];exact F);exact ⟨_,G,h.cell i _ d G e⟩
def FrmS.none {f g:Frm} (h:FrmS ρ f g) {i:Nat} (e:g.cells[i]? = none):f.cells[i]? = none:=by
 rw [List.getElem?_eq_none_iff] at e ⊢;rw [h.len];exact e
def Sim.getC (h:Sim ρ a b) {i:Nat} {g:Frm} (e:b.calls[i]? = some g) : ∃f,a.calls[i]? = some f/\FrmS ρ f g:=by
 have F:=(List.getElem?_eq_some_iff.1 e).1;have G:a.calls[i]? = some (a.calls[i]'(by rw [h.nc];exact F)):=bT (by rw [h.nc];exact F);exact ⟨_,G,h.call i _ g G e⟩
def Sim.nil (h:Sim ρ a b):a.calls=[]↔b.calls=[]:=by
 rw [<-List.length_eq_zero_iff,<-List.length_eq_zero_iff,h.nc]
def Sim.cur (h:Sim ρ a b):FrmS ρ a.cur b.cur:=by
 unfold Stp.cur;rw [List.getLast?_eq_getElem?,List.getLast?_eq_getElem?,h.nc];cases e:b.calls[b.calls.length-1]? with
 | none=>
  have:a.calls[b.calls.length-1]? = none:=by
   rw [List.getElem?_eq_none_iff] at e ⊢;rw [h.nc];exact e
  rw [this];exact h.base
 | some g=>
  obtain ⟨f,F,G⟩:=h.getC e;rw [F];exact G
def Sim.look (h:Sim ρ a b):a.look=b.look:=by
 funext s;unfold Stp.look Frm.cell;have F:=h.cur;rw [F.vars];cases BR s b.cur.vars with
 | none=>rfl
 | some i=>
  simp only [Option.bind_some];cases e:b.cur.cells[i]? with
  | none=>rw [F.none e];rfl
  | some d=>
   obtain ⟨c,G,L⟩:=F.get e;rw [G];simp only [Option.map_some,h.items _ _ L]
def Vis.cellD (h:Vis st s d):st.cellD s=d:=by
 obtain ⟨i,F,G⟩:=h;unfold Stp.cellD Frm.cell;rw [F];simp [G]
def Sim.vis (h:Sim ρ a b) (F:Vis b s d) : ∃c,Vis a s c/\ρ c d:=by
 obtain ⟨i,G,L⟩:=F;obtain ⟨c,M,N⟩:=h.cur.get L;exact ⟨c,⟨i,by rw [h.cur.vars];exact G,M⟩,N⟩
def Sim.all (h:Sim ρ a b) (L:ρ c d) (xs:List Int):Sim ρ (a.all c xs) (b.all d xs) where
 base:=h.base
 nc:=h.nc
 call:=h.call
 tin:=h.tin
 tout:=h.tout
 items:=fun M N F=>by
  rw [CX,CX,h.items _ _ F];have e:=h.inj _ _ _ _ F L;have l:=h.lt _ _ L;by_cases G:M=c
  . rw [AG ⟨G,l.1⟩,AG ⟨e.1 G,l.2⟩]
  . rw [As (fun x=>G x.1),As (fun x=>G (e.2 x.1))]
 lt:=fun M N F=>by
  unfold Stp.all;simp only [List.length_set];exact h.lt _ _ F
 inj:=h.inj
def Sim.put (h:Sim ρ a b) (F:ρ c d) (i:Nat) (v:Int):Sim ρ (a.put c i v) (b.put d i v):=by
 unfold Stp.put;rw [h.items _ _ F];exact h.all F _
def Sim.tinW (h:Sim ρ a b) (x:List Int):Sim ρ { a with tin:=x } { b with tin:=x }:=⟨h.base,h.nc,h.call,rfl,h.tout,h.items,h.lt,h.inj⟩
def Sim.toutW (h:Sim ρ a b) (x:List Int):Sim ρ { a with tout:=x } { b with tout:=x }:=⟨h.base,h.nc,h.call,h.tin,rfl,h.items,h.lt,h.inj⟩
def Sim.transfer (h:Sim ρ a b) (F:ρ c d) (k:Int) (i:Nat):(a.transfer k c i).1=(b.transfer k d i).1/\Sim ρ (a.transfer k c i).2 (b.transfer k d i).2:=by
 unfold fM;rw [h.tin,h.tout,h.items _ _ F];by_cases N:k=46
 . simp only [AG N];cases b.tin with
   | nil=>exact ⟨rfl,h⟩
   | cons v r=>
    simp only;by_cases G:(b.items d).getD i 0≠0
    . simp only [AG G];exact ⟨trivial,h⟩
    . simp only [As G];exact ⟨trivial,(h.put F i v).tinW r⟩
 simp only [As N];by_cases G:k=47
 . simp only [AG G];by_cases L:4096<=b.tin.length
   . simp only [AG L];exact ⟨trivial,h⟩
   . simp only [As L];exact ⟨trivial,(h.put F i 0).tinW _⟩
 simp only [As G];by_cases L:k=48
 . simp only [AG L];by_cases M:4096<=b.tout.length
   . simp only [AG M];exact ⟨trivial,h⟩
   . simp only [As M];exact ⟨trivial,(h.put F i 0).toutW _⟩
 simp only [As L];cases b.tout.getLast? with
 | none=>exact ⟨rfl,h⟩
 | some v=>
  simp only;by_cases M:(b.items d).getD i 0≠0
  . simp only [AG M];exact ⟨trivial,h⟩
  . simp only [As M];exact ⟨trivial,(h.put F i v).toutW _⟩
def Sim.move (h:Sim ρ a b) (G:ρ c d) {e f:Nat} (F:ρ e f) (k:Int) (i:Nat):(a.move k c i e).1=(b.move k d i f).1/\Sim ρ (a.move k c i e).2 (b.move k d i f).2:=by
 unfold gF;rw [h.items _ _ G,h.items _ _ F];by_cases L:k=44
 . simp only [AG L];by_cases M:1000<=(b.items f).length
   . simp only [AG M];exact ⟨trivial,h⟩
   . simp only [As M];exact ⟨trivial,(h.all F _).put G i 0⟩
 simp only [As L];cases (b.items f).getLast? with
 | none=>exact ⟨rfl,h⟩
 | some v=>
  simp only;by_cases N:(b.items d).getD i 0≠0
  . simp only [AG N];exact ⟨trivial,h⟩
  . simp only [As N];exact ⟨trivial,(h.put G i v).all F _⟩
def Sim.exec (h:Sim ρ a b) (k:Int) (s:lB) (l:List Nd) (h1 : ∃d,Vis b (l.getD 0 (.mk 0 0 [] [])).name d) (h2:k=43 -> ∃d,Vis b (l.getD 1 (.mk 0 0 [] [])).name d) (h3:k=44\/k=45 -> ∃d,Vis b s d) :
 (a.exec k s l).1=(b.exec k s l).1/\Sim ρ (a.exec k s l).2 (b.exec k s l).2:=by
 obtain ⟨d,V⟩:=h1;obtain ⟨c,hc,L⟩:=h.vis V;unfold Stp.exec;simp only [h.look,hc.cellD,V.cellD,h.items _ _ L];generalize Bi b.look (l.getD 0 (.mk 0 0 [] []))=N;generalize (if k=43 then Bi b.look (l.getD 1 (.mk 0 0 [] [])) else if 40<=k/\k<=42 then AT b.look (l.getD 1 (.mk 0 0 [] [])) else (0,0))=r;by_cases X:N.2≠0
 . simp only [AG X];exact ⟨trivial,h⟩
 simp only [As X];by_cases Y:r.2≠0
 . simp only [AG Y];exact ⟨trivial,h⟩
 simp only [As Y];by_cases Z:N.1<0\/((b.items d).length:Int)<=N.1
 . simp only [AG Z];exact ⟨trivial,h⟩
 simp only [As Z];by_cases e4:40<=k/\k<=42
 . simp only [AG e4];exact ⟨trivial,h.put L _ _⟩
 simp only [As e4];by_cases O:k=43
 . simp only [AG O];obtain ⟨f,M⟩:=h2 O;obtain ⟨e,U,F⟩:=h.vis M;rw [U.cellD,M.cellD,h.items _ _ F];by_cases G:r.1<0\/((b.items f).length:Int)<=r.1
   . simp only [AG G];exact ⟨trivial,h⟩
   . simp only [As G];exact ⟨trivial,(h.put L _ _).put F _ _⟩
 simp only [As O];by_cases G:k=44\/k=45
 . simp only [AG G];obtain ⟨f,M⟩:=h3 G;obtain ⟨e,U,F⟩:=h.vis M;rw [U.cellD,M.cellD];exact h.move L F k _
 . simp only [As G];exact h.transfer L k _
def Stp.WF.vis {K:List (Int×Int)} {m:Nat} (h:st.WF K m) {k:Int} (F:EC st.cur.vars s k=0) : ∃d x,Vis st s d/\d<st.heap.length/\K[d]? = some x/\x.1=k/\cellOk x (st.items d):=by
 obtain ⟨i,c,x,G,L,-,-,M,N,O,U⟩:=h.use F;exact ⟨c,x,⟨i,G,L⟩,M,N,O,U⟩
def UU {v:List VD} {x:Nd} (F:x.isPlace=true) (h:x.bad v=0):EC v x.name 1=0\/EC v x.name 2=0:=by
 obtain ⟨k,n,s,l⟩:=x;obtain ⟨G,-⟩:=JQ h;simp only [Nd.isPlace,bZ,Bool.or_eq_true,beq_iff_eq,fS] at F;rcases F.1 with rfl|rfl
 . exact bW (G AY)
 . exact bX (G AY)
end
section
variable {st st' a b:Stp} {c d e i:Nat} {v:Int} {xs ys:List Int}
def Stp.eq_of (h:a.base=b.base) (F:a.calls=b.calls) (G:a.tin=b.tin) (L:a.tout=b.tout) (M:a.heap.length=b.heap.length) (N : ∀c,a.items c=b.items c):a=b:=by
 obtain ⟨V,X,ca,Y,oa⟩:=a;obtain ⟨Z,bb,cb,ib,ob⟩:=b;simp only at h F G L M;subst h F G L;congr 1;refine List.ext_getElem M fun n O U=>?_
 have:=N n;unfold fZ at this;simpa [cB,bT O,bT U] using this
def Bu (h:c<st.heap.length):(st.put c i v).items c=(st.items c).set i v:=by
 unfold Stp.put;rw [CX,AG ⟨rfl,h⟩]
def Bj (h:d≠c):(st.put c i v).items d=st.items d:=by
 unfold Stp.put;rw [CX,As (fun x=>h x.1)]
def ER (h:c<st.heap.length):(st.all c xs).items c=xs:=by rw [CX,AG ⟨rfl,h⟩]
def Ca (h:d≠c):(st.all c xs).items d=st.items d:=by rw [CX,As (fun x=>h x.1)]
def Gt:(st.all c xs).heap.length=st.heap.length:=by simp [Stp.all]
def C5:(st.put c i v).heap.length=st.heap.length:=by simp [Stp.put,Stp.all]
def GS {L:List Int} (h:i<L.length) (v:Int):(L.set i v).set i (L.getD i 0)=L:=by
 rw [List.set_set];simp [cB,bT h]
def D1 {L:List Int} (h:i<L.length) (v:Int):(L.set i v).getD i 0=v:=by
 simp [cB,List.getElem?_set_self h]
def GT (F:c<st.heap.length) (G:i<(st.items c).length) (v:Int):(st.put c i v).put c i ((st.items c).getD i 0)=st:=by
 refine Stp.eq_of rfl rfl rfl rfl (by simp [C5]) fun L=>?_
 by_cases h:L=c
 . subst h;rw [Bu (by rw [C5];exact F),Bu F,GS G]
 . rw [Bj h,Bj h]
def MP {L:List Int} (h:i<L.length):L.set i (L.getD i 0)=L:=by
 have:=GS h 0;rwa [List.set_set] at this
def UV {L:List Int} {j:Nat} (F:i<L.length) (G:j<L.length) :
 ((((L.set i (L.getD j 0)).set j (L.getD i 0)).set i (((L.set i (L.getD j 0)).set j (L.getD i 0)).getD j 0)).set j (((L.set i (L.getD j 0)).set j (L.getD i 0)).getD i 0))=L:=by
 by_cases h:i=j
 . subst h;simp only [MP F]
 . have M:((L.set i (L.getD j 0)).set j (L.getD i 0)).getD j 0=L.getD i 0:=D1 (by simp [G]) _;have N:((L.set i (L.getD j 0)).set j (L.getD i 0)).getD i 0=L.getD j 0:=by
    rw [cB,List.getElem?_set_ne (fun x=>h x.symm),<-cB,D1 F]
   rw [M,N,List.set_comm _ _ (fun x=>h x.symm),List.set_set,List.set_set,MP F,MP G]
def WP {j:Nat} (L:c<st.heap.length) (M:i<(st.items c).length) (U:e<st.heap.length) (N:j<(st.items e).length) :
 (((st.put c i ((st.items e).getD j 0)).put e j ((st.items c).getD i 0)).put c i ((((st.put c i ((st.items e).getD j 0)).put e j ((st.items c).getD i 0)).items e).getD j 0)).put e j
  ((((st.put c i ((st.items e).getD j 0)).put e j ((st.items c).getD i 0)).items c).getD i 0)=st:=by
 refine Stp.eq_of rfl rfl rfl rfl (by simp [C5]) fun O=>?_
 by_cases F:c=e
 . subst F;by_cases h:O=c
   . subst h;simp only [Bu,C5,L];exact UV M N
   . simp only [Bj h]
 . have G:e≠c:=fun x=>F x.symm
   by_cases h:O=c
   . subst h;simp only [Bu,Bj F,Bj G,C5,L,U];rw [D1 N,GS M]
   . by_cases V:O=e
     . subst V;simp only [Bu,Bj F,Bj G,C5,L,U];rw [D1 M,GS N]
     . simp only [Bj h,Bj V]
def Tl (v:BitVec 64):Ko v.toNat=v.toInt:=by
 rw [BitVec.toInt_eq_toNat_cond];unfold Ko;rw [IntKind.wrap];have:=v.isLt;simp [IntKind.signed,IntKind.bits];omega
def UW {x:Int} (h:Fp x):(BitVec.ofInt 64 x).toInt=x:=by
 unfold Fp at h;rw [BitVec.toInt_ofInt];simp only [Int.bmod];omega
def WQ {k u r:Int} (F:k=40\/k=41\/k=42) (h:Fp u):Lc (Bd k) (Lc k u r) r=u:=by
 rcases F with rfl|rfl|rfl
 . simp only [Bd,Lc];simp;unfold Fp at h;unfold Ko;rw [IntKind.wrap,IntKind.wrap];simp [IntKind.signed,IntKind.bits];omega
 . simp only [Bd,Lc];simp;unfold Fp at h;unfold Ko;rw [IntKind.wrap,IntKind.wrap];simp [IntKind.signed,IntKind.bits];omega
 . have e:Bd 42=42:=by decide
   rw [e];simp only [Lc];simp only [show ¬((42:Int)=40) by decide,show ¬((42:Int)=41) by decide,if_false,M3];rw [Tl (BitVec.ofInt 64 u ^^^ BitVec.ofInt 64 r),BitVec.ofInt_toInt,BitVec.xor_assoc,BitVec.xor_self,BitVec.xor_zero,Tl,UW h]
def Stp.execT (st:Stp) (k:Int) (i:Nat) (r:Int) (c e d:Nat):Int×Stp:=
 if 40<=k/\k<=42 then (0,st.put c i (Lc k ((st.items c).getD i 0) r))
 else if k=43 then
  if r<0\/((st.items e).length:Int)<=r then (12,st)
  else (0,(st.put c i ((st.items e).getD r.toNat 0)).put e r.toNat ((st.items c).getD i 0))
 else if k=44\/k=45 then st.move k c i d
 else st.transfer k c i
def MQ (st:Stp) (k:Int) (s:lB) (l:List Nd):st.exec k s l =
 (let x:=l.getD 0 (.mk 0 0 [] [])
  let y:=l.getD 1 (.mk 0 0 [] [])
  let a:=Bi st.look x
  let r:=if k=43 then Bi st.look y else if 40<=k/\k<=42 then AT st.look y else (0,0)
  if a.2≠0 then (a.2,st) else if r.2≠0 then (r.2,st) else if a.1<0\/((st.items (st.cellD x.name)).length:Int)<=a.1 then (12,st)
  else st.execT k a.1.toNat r.1 (st.cellD x.name) (st.cellD y.name) (st.cellD s)):=rfl
def Sw {k r:Int} (hk:40<=k/\k<=49) (h:st.execT k i r c e d=(0,st')) (M:i<(st.items c).length) (N:c<st.heap.length) (he:k=43->e<st.heap.length)
 (hd:k=44\/k=45->d<st.heap.length/\c≠d/\(st.items d).length<=1000) (ht:st.tin.length<=4096/\st.tout.length<=4096) (hr:Fp ((st.items c).getD i 0)):st'.execT (Bd k) i r c e d=(0,st):=by
 unfold Stp.execT at h ⊢;by_cases h1:40<=k/\k<=42
 . rw [AG h1] at h;obtain ⟨-,rfl⟩:=Prod.mk.inj h;have aa:k=40\/k=41\/k=42:=by omega
   have h2:40<=Bd k/\Bd k<=42:=by rcases aa with rfl|rfl|rfl<;>decide
   rw [AG h2,Bu N,D1 M,WQ aa hr,GT N M]
 rw [As h1] at h;by_cases h2:k=43
 . subst h2;have e1:Bd 43=43:=by decide
   rw [e1,As AY,AG rfl];rw [AG rfl] at h;by_cases V:r<0\/((st.items e).length:Int)<=r
   . rw [AG V] at h;cases h
   rw [As V] at h;obtain ⟨-,rfl⟩:=Prod.mk.inj h;have hj:r.toNat<(st.items e).length:=by omega
   rw [As (by simp only [Gm];exact V)];rw [WP N M (he rfl) hj]
 rw [As h2] at h;by_cases V:k=44\/k=45
 . rw [AG V] at h;obtain ⟨d1,d2,d3⟩:=hd V;have d4:d≠c:=fun x=>d2 x.symm
   have h4:Bd k=44\/Bd k=45:=by rcases V with rfl|rfl<;>decide
   rw [As Ab,As Ab,AG h4];rcases V with rfl|rfl
   . unfold gF at h ⊢;rw [AG rfl] at h;by_cases X:1000<=(st.items d).length
     . rw [AG X] at h;cases h
     rw [As X] at h;obtain ⟨-,rfl⟩:=Prod.mk.inj h;have e1:((st.all d (st.items d++[(st.items c).getD i 0])).put c i 0).items d=st.items d++[(st.items c).getD i 0]:=by rw [Bj d4,ER d1]
     have O:((st.all d (st.items d++[(st.items c).getD i 0])).put c i 0).items c=(st.items c).set i 0:=by rw [Bu (by rw [Gt];exact N),Ca d2]
     rw [As AY,e1,O,List.getLast?_concat];simp only [D1 M,ne_eq,not_true,if_false,List.dropLast_concat];congr 1;refine Stp.eq_of rfl rfl rfl rfl (by simp [C5,Gt]) fun c'=>?_
     by_cases Z:c'=d
     . subst Z;rw [ER (by simp [C5,Gt,d1])]
     . rw [Ca Z];by_cases G:c'=c
       . subst G;rw [Bu (by simp [C5,Gt,N]),O,GS M]
       . rw [Bj G,Bj G,Ca Z]
   . unfold gF at h ⊢;rw [As AY] at h;have Y:Bd 45=44:=by decide
     rw [Y,AG rfl];rcases List.eq_nil_or_concat (st.items d) with U|⟨ys,y,F⟩
     . rw [U] at h;cases h
     rw [List.concat_eq_append] at F;rw [F,List.getLast?_concat] at h;simp only [List.dropLast_concat] at h;by_cases X:(st.items c).getD i 0≠0
     . rw [AG X] at h;cases h
     rw [As X] at h;obtain ⟨-,rfl⟩:=Prod.mk.inj h;have e1:((st.put c i y).all d ys).items d=ys:=ER (by rw [C5];exact d1);have O:((st.put c i y).all d ys).items c=(st.items c).set i y:=by rw [Ca d2,Bu N]
     rw [e1,O,D1 M,As (by rw [F] at d3;simp at d3;omega)];congr 1;refine Stp.eq_of rfl rfl rfl rfl (by simp [C5,Gt]) fun c'=>?_
     by_cases G:c'=c
     . subst G;rw [Bu (by simp [C5,Gt,N]),Ca d2,O,List.set_set];have:=GS (L:=st.items c') M 0;rw [List.set_set] at this;rw [<-Decidable.not_not.1 X];exact this
     . rw [Bj G];by_cases Z:c'=d
       . subst Z;rw [ER (by simp [C5,Gt,d1]),F]
       . rw [Ca Z,Ca Z,Bj G]
 rw [As V] at h;obtain ⟨t1,t2⟩:=ht;have X:k=46\/k=47\/k=48\/k=49:=by omega
 have Z:Bd k=46\/Bd k=47\/Bd k=48\/Bd k=49:=by rcases X with rfl|rfl|rfl|rfl<;>decide
 rw [As Ab,As Ab,As Ab];have hz : ∀ {y:Int} {t1 t2:List Int},(st.items c).getD i 0=0->t1=st.tin->t2=st.tout->({ (({ st.put c i y with tin:=t1,tout:=t2 }:Stp).put c i 0) with tin:=t1,tout:=t2 }:Stp)=st:=by
  rintro y _ _ h0 rfl rfl;have:=GT N M y;rw [h0] at this;exact this
 rcases X with rfl|rfl|rfl|rfl
 . unfold fM at h ⊢;rw [AG rfl] at h;have Y:Bd 46=47:=by decide
   rw [Y,As AY,AG rfl];cases ht:st.tin with
   | nil=>rw [ht] at h;cases h
   | cons v r=>
    rw [ht] at h t1;simp only at h;by_cases G:(st.items c).getD i 0≠0
    . rw [AG G] at h;cases h
    rw [As G] at h;obtain ⟨-,rfl⟩:=Prod.mk.inj h;have O:({ st.put c i v with tin:=r }:Stp).items c=(st.items c).set i v:=Bu N;rw [O,D1 M];rw [As (by simp at t1 ⊢;omega)];congr 1;have:=GT N M v;rw [Decidable.not_not.1 G] at this;have e3:({ ({ st.put c i v with tin:=r }:Stp).put c i 0 with tin:=v::r }:Stp)={ (st.put c i v).put c i 0 with tin:=v::r }:=rfl;rw [e3,this,<-ht]
 . unfold fM at h ⊢;rw [As AY,AG rfl] at h;have Y:Bd 47=46:=by decide
   rw [Y,AG rfl];by_cases G:4096<=st.tin.length
   . rw [AG G] at h;cases h
   rw [As G] at h;obtain ⟨-,rfl⟩:=Prod.mk.inj h;have O:({ st.put c i 0 with tin:=(st.items c).getD i 0::st.tin }:Stp).items c=(st.items c).set i 0:=Bu N;simp only [O,D1 M,ne_eq,not_true,if_false];congr 1;have e3:({ ({ st.put c i 0 with tin:=(st.items c).getD i 0::st.tin }:Stp).put c i ((st.items c).getD i 0) with tin:=st.tin }:Stp)={ (st.put c i 0).put c i ((st.items c).getD i 0) with tin:=st.tin }:=rfl;rw [e3,GT N M]
 . unfold fM at h ⊢;rw [As AY,As AY,AG rfl] at h;have Y:Bd 48=49:=by decide
   rw [Y,As AY,As AY,As AY];by_cases G:4096<=st.tout.length
   . rw [AG G] at h;cases h
   rw [As G] at h;obtain ⟨-,rfl⟩:=Prod.mk.inj h;have O:({ st.put c i 0 with tout:=st.tout++[(st.items c).getD i 0] }:Stp).items c=(st.items c).set i 0:=Bu N;simp only [List.getLast?_concat,O,D1 M,ne_eq,not_true,if_false,List.dropLast_concat];congr 1;have e3:({ ({ st.put c i 0 with tout:=st.tout++[(st.items c).getD i 0] }:Stp).put c i ((st.items c).getD i 0) with tout:=st.tout }:Stp)={ (st.put c i 0).put c i ((st.items c).getD i 0) with tout:=st.tout }:=rfl;rw [e3,GT N M]
 . unfold fM at h ⊢;rw [As AY,As AY,As AY] at h;have Y:Bd 49=48:=by decide
   rw [Y,As AY,As AY,AG rfl];rcases List.eq_nil_or_concat st.tout with U|⟨ys,y,F⟩
   . rw [U] at h;cases h
   rw [List.concat_eq_append] at F;rw [F,List.getLast?_concat] at h;simp only [List.dropLast_concat] at h;by_cases G:(st.items c).getD i 0≠0
   . rw [AG G] at h;cases h
   rw [As G] at h;obtain ⟨-,rfl⟩:=Prod.mk.inj h;have O:({ st.put c i y with tout:=ys }:Stp).items c=(st.items c).set i y:=Bu N;rw [O,D1 M];rw [F] at t2;rw [As (by simp at t2 ⊢;omega)];congr 1;have:=GT N M y;rw [Decidable.not_not.1 G] at this;have e3:({ ({ st.put c i y with tout:=ys }:Stp).put c i 0 with tout:=ys++[y] }:Stp)={ (st.put c i y).put c i 0 with tout:=ys++[y] }:=rfl;rw [e3,this,<-F]
end
def K6 {m x:Nd} : ∀ {l:List Nd},x∈l->m∈x.walk->m∈BX l
 | [],h,_=>by cases h
 | t::r,h,F=>by
  simp only [BX,List.mem_append];rcases dQ.1 h with rfl|h
  . exact bW F
  . exact bX (K6 h F)
def Q8 {k n:Int} {s:lB} {l:List Nd} {m x:Nd} (h:x∈l) (F:m∈x.walk):m∈(Nd.mk k n s l).walk:=by
 simp only [Nd.walk];exact List.mem_cons_of_mem _ (K6 h F)
def N7 (t:Nd):t∈t.walk:=by
 obtain ⟨k,n,s,l⟩:=t;simp [Nd.walk]
def Q9 {f g:lB->Option (List Int)} : ∀(N:Nat) (t:Nd),t.size<N->(∀m∈t.walk,2<=m.kind->m.kind<=5->f m.name=g m.name)->AT f t=AT g t
 | 0,_,h,_=>by omega
 | N+1,.mk k n s l,h,O=>by
  have F : ∀x∈l,AT f x=AT g x:=fun x U=>Q9 N x (by have:=Du U;simp only [fF] at h;omega) (fun m M=>O m (Q8 U M))
  have G:2<=k->k<=5->f s=g s:=fun V X=>O _ (N7 _) V X
  unfold AT;by_cases L:k=1
  . rw [AG L,AG L]
  rw [As L,As L];by_cases c2:k=2
  . rw [AG c2,AG c2,G Ab Ab]
  rw [As c2,As c2];by_cases c3:k=3
  . rw [AG c3,AG c3,G Ab Ab];rcases l with _|⟨x,_|⟨y,r⟩⟩
    . rfl
    . simp only [F x (List.mem_singleton.2 rfl)]
    . rfl
  rw [As c3,As c3];by_cases c4:k=4
  . rw [AG c4,AG c4,G Ab Ab]
  rw [As c4,As c4];by_cases c5:k=5
  . rw [AG c5,AG c5,G Ab Ab]
  rw [As c5,As c5];rcases l with _|⟨x,_|⟨y,_|⟨z,r⟩⟩⟩
  . rfl
  . simp only [F x (List.mem_singleton.2 rfl)]
  . simp only [F x AR,F y AR]
  . rfl
def IK {f g:lB->Option (List Int)} {t:Nd} (h : ∀s,t.ment s=true->f s=g s):AT f t=AT g t:=
 Q9 (t.size+1) t Ab fun m F G L=>h _ (by
  unfold Nd.ment;rw [List.any_eq_true];exact ⟨m,F,by unfold Nd.isRef;simp [G,L]⟩)
def K7 {f g:lB->Option (List Int)} {t:Nd} (G:t.kind=2\/t.kind=3) (h : ∀s,t.idx s=true->f s=g s):Bi f t=Bi g t:=by
 obtain ⟨k,n,s,l⟩:=t;unfold Bi;by_cases F:(Nd.mk k n s l).kind=2
 . rw [AG F,AG F]
 . rw [As F,As F];have L:k=3:=G.resolve_left F;cases l with
   | nil=>rfl
   | cons x r=>exact IK fun s M=>h s (by unfold Nd.idx;simp [L,fS,Nd.kids,M])
def RngL (xs:List Int):Prop:= ∀x∈xs,Fp x
def RngL.get {xs:List Int} (h:RngL xs) (i:Nat):Fp (xs.getD i 0):=by
 rw [cB];cases e:xs[i]? with
 | none=>simp [Fp]
 | some x=>exact h x (dL e)
def WR {f:lB->Option (List Int)} (F : ∀s xs,f s=some xs->xs.length<=1000000/\RngL xs) : ∀(N:Nat) (t:Nd),t.size<N->t.wf->Fp (AT f t).1
 | 0,_,h,_=>by omega
 | N+1,.mk k n s l,h,G=>by
  have O:Fp n:=by
   simp only [Nd.wf] at G;exact ⟨G.2.2.1,G.2.2.2.1⟩
  have U : ∀x∈l,Fp (AT f x).1:=fun x L=>WR F N x (by have:=Du L;simp only [fF] at h;omega) (BF (by simp only [Nd.wf] at G;exact G.2.2.2.2.2.2) x L)
  have z:Fp 0:=by simp [Fp]
  unfold AT;by_cases M:k=1
  . rw [AG M];exact O
  rw [As M];by_cases c2:k=2
  . rw [AG c2];cases e:f s with
    | none=>exact z
    | some c=>exact Gq ((F s c e).2.get 0) z
  rw [As c2];by_cases c3:k=3
  . rw [AG c3];cases e:f s with
    | none=>exact z
    | some c=>
     rcases l with _|⟨x,_|⟨y,r⟩⟩
     . exact z
     . exact Gq z (Gq z ((F s c e).2.get _))
     . exact z
  rw [As c3];by_cases c4:k=4
  . rw [AG c4];cases e:f s with
    | none=>exact z
    | some c=>exact Gq z ((F s c e).2.get _)
  rw [As c4];by_cases c5:k=5
  . rw [AG c5];cases e:f s with
    | none=>exact z
    | some c=>
     have:=(F s c e).1;unfold Fp;simp only;omega
  rw [As c5];rcases l with _|⟨x,_|⟨y,_|⟨V,r⟩⟩⟩
  . exact z
  . exact Gq z (N1 _ _)
  . exact Gq z (Gq z (N2 _ (U x AR)))
  . exact z
structure Good (st:Stp):Prop where
 wf : ∃K m,st.WF K m
 rng : ∀c,RngL (st.items c)
 tin:st.tin.length<=4096
 tout:st.tout.length<=4096
 tinR:RngL st.tin
 toutR:RngL st.tout
 nodup : ∀f∈st.base::st.calls,f.cells.Nodup
section
variable {st st' a b:Stp} {c d e i:Nat} {v:Int} {xs ys:List Int} {s:lB}
def Good.cur (h:Good st):st.cur.cells.Nodup:=h.nodup _ (IC st)
def Good.look (h:Good st) (s:lB) (xs:List Int) (e:st.look s=some xs):xs.length<=1000000/\RngL xs:=by
 obtain ⟨K,m,F⟩:=h.wf;refine ⟨F.look_le e,?_⟩;unfold Stp.look at e;cases h2:st.cur.cell s with
 | none=>rw [h2] at e;cases e
 | some c=>
  rw [h2] at e;obtain rfl:=cD e;exact h.rng c
def Good.ev (h:Good st) {t:Nd} (F:t.wf):Fp (AT st.look t).1:=WR h.look (t.size+1) t Ab F
def RngL.set (h:RngL xs) (F:Fp v):RngL (xs.set i v):=fun x G=>by
 rcases List.mem_or_eq_of_mem_set G with L|rfl
 . exact h x L
 . exact F
def MR (h : ∀c,RngL (st.items c)) (F:RngL xs) : ∀d,RngL ((st.all c xs).items d):=fun d=>by
 rw [CX];split
 . exact F
 . exact h d
def ES (h : ∀c,RngL (st.items c)) (F:Fp v) : ∀d,RngL ((st.put c i v).items d):=MR h ((h c).set F)
def WS (a b:Stp):Prop:=a.base=b.base/\a.calls=b.calls/\a.heap.length=b.heap.length
def YJ (k x y:Int):Fp (Lc k x y):=by
 unfold Lc;split
 . exact Kb _
 split
 . exact Kb _
 . exact Te _ _ _
def MS (st:Stp) (k:Int) (i:Nat) (r:Int) (c e d:Nat):WS (st.execT k i r c e d).2 st:=by
 unfold Stp.execT gF fM
 repeat' split
 all_goals refine ⟨rfl,rfl,?_⟩
 all_goals simp [C5,Gt]
def Ra (h:Good st) (k:Int) (i:Nat) (r:Int) (c e d:Nat) :
 (∀U,RngL ((st.execT k i r c e d).2.items U))/\(st.execT k i r c e d).2.tin.length<=4096/\(st.execT k i r c e d).2.tout.length<=4096/\RngL (st.execT k i r c e d).2.tin/\RngL (st.execT k i r c e d).2.tout:=by
 have z:Fp 0:=by simp [Fp]
 have F:(∀U,RngL (st.items U))/\st.tin.length<=4096/\st.tout.length<=4096/\RngL st.tin/\RngL st.tout:=⟨h.rng,h.tin,h.tout,h.tinR,h.toutR⟩;have M:=h.tin;have V:=h.tout;have N : ∀c i,Fp ((st.items c).getD i 0):=fun c i=>(h.rng c).get i
 unfold Stp.execT;split
 . exact ⟨ES h.rng (YJ _ _ _),F.2⟩
 split
 . split
   . exact F
   . exact ⟨ES (ES h.rng (N _ _)) (N _ _),F.2⟩
 split
 . unfold gF;split
   . split
     . exact F
     . refine ⟨ES (MR h.rng fun x L=>?_) z,F.2⟩;rcases List.mem_append.1 L with G|G
       . exact h.rng d x G
       . rw [List.mem_singleton.1 G];exact N _ _
   . split
     . exact F
     . rename_i v O;split
       . exact F
       . exact ⟨MR (ES h.rng (h.rng d v (List.mem_of_getLast? O))) (fun x L=>h.rng d x (Ee L)),F.2⟩
 . unfold fM;split
   . split
     . exact F
     . rename_i v r O;split
       . exact F
       . have G:=h.tinR;rw [O] at G M;exact ⟨ES h.rng (G v AR),by simp at M ⊢;omega,h.tout,fun x L=>G x (by simp only [dQ];exact bX L),h.toutR⟩
   split
   . split
     . exact F
     . refine ⟨ES h.rng z,by simp only [cF];omega,h.tout,fun x L=>?_,h.toutR⟩;rcases dQ.1 L with rfl|G
       . exact N _ _
       . exact h.tinR x G
   split
   . split
     . exact F
     . refine ⟨ES h.rng z,h.tin,by simp only [cP,cF,dD];omega,h.tinR,fun x L=>?_⟩;rcases List.mem_append.1 L with G|G
       . exact h.toutR x G
       . rw [List.mem_singleton.1 G];exact N _ _
   . split
     . exact F
     . rename_i v O;split
       . exact F
       . exact ⟨ES h.rng (h.toutR v (List.mem_of_getLast? O)),h.tin,by simp only [List.length_dropLast];omega,h.tinR,fun x L=>h.toutR x (Ee L)⟩
def MT (st:Stp) (k:Int) (s:lB) (l:List Nd):(st.exec k s l).2=st \/ ∃i r c e d,(st.exec k s l).2=(st.execT k i r c e d).2:=by
 rw [MQ];simp only;generalize (if k=43 then Bi st.look (l.getD 1 (.mk 0 0 [] [])) else if 40<=k/\k<=42 then AT st.look (l.getD 1 (.mk 0 0 [] [])) else (0,0))=r;generalize Bi st.look (l.getD 0 (.mk 0 0 [] []))=a;split
 . exact bW rfl
 split
 . exact bW rfl
 split
 . exact bW rfl
 . exact bX ⟨_,_,_,_,_,rfl⟩
def IL (st:Stp) (k n:Int) (s:lB) (l:List Nd):WS (st.run1 k n s l).2 st:=by
 unfold Stp.run1;split
 . exact ⟨rfl,rfl,rfl⟩
 split
 . exact ⟨rfl,rfl,rfl⟩
 . rcases MT st k s l with h|⟨i,r,c,e,d,h⟩<;>rw [h]
   . exact ⟨rfl,rfl,rfl⟩
   . exact MS ..
def Good.run1 (h:Good st) (k n:Int) (s:lB) (l:List Nd):Good (st.run1 k n s l).2:=by
 obtain ⟨K,m,N⟩:=h.wf;obtain ⟨O,U,X⟩:=IL st k n s l;have V : ∀f∈(st.run1 k n s l).2.base::(st.run1 k n s l).2.calls,f.cells.Nodup:=by rw [O,U];exact h.nodup
 have F:=N.run1 k n s l;have key:(∀G,RngL ((st.run1 k n s l).2.items G))/\(st.run1 k n s l).2.tin.length<=4096/\(st.run1 k n s l).2.tout.length<=4096/\RngL (st.run1 k n s l).2.tin/\RngL (st.run1 k n s l).2.tout:=by
  have L:(∀G,RngL (st.items G))/\st.tin.length<=4096/\st.tout.length<=4096/\RngL st.tin/\RngL st.tout:=⟨h.rng,h.tin,h.tout,h.tinR,h.toutR⟩
  unfold Stp.run1;split
  . exact L
  split
  . exact L
  . rcases MT st k s l with M|⟨i,r,c,e,d,M⟩<;>rw [M]
    . exact L
    . exact Ra h ..
 exact ⟨⟨K,m,F⟩,key.1,key.2.1,key.2.2.1,key.2.2.2.1,key.2.2.2.2,V⟩
def N8 {l:List Nat} (h:l.Nodup) {i j x:Nat} (F:l[i]? = some x) (G:l[j]? = some x):i=j:=by
 have L:=(List.getElem?_eq_some_iff.1 F).1;exact (List.getElem?_inj L h).1 (F.trans G.symm)
def MU (L:st.cur.cells.Nodup) {s F:lB} (h:Vis st s c) (M:Vis st F d) (N:F≠s):d≠c:=by
 rintro rfl;obtain ⟨i,O,U⟩:=h;obtain ⟨j,V,X⟩:=M;obtain rfl:=N8 L U X;obtain ⟨v,Y,Z⟩:=Dx O;obtain ⟨u,G,h8⟩:=Dx V;rw [Y] at G;obtain rfl:=cD G;exact N (h8.symm.trans Z)
def Fd {a b:Stp} (h:a.base=b.base) (F:a.calls=b.calls):a.cur=b.cur:=by unfold Stp.cur;rw [h,F]
def YK {a b:Stp} (F:a.base=b.base) (G:a.calls=b.calls) {s:lB} (h : ∀d,Vis b s d->a.items d=b.items d):a.look s=b.look s:=by
 unfold Stp.look Frm.cell;rw [Fd F G];cases e:BR s b.cur.vars with
 | none=>rfl
 | some i=>
  simp only [Option.bind_some];cases e2:b.cur.cells[i]? with
  | none=>rfl
  | some d=>
   simp only [Option.map_some];rw [h d ⟨i,e,e2⟩]
def Rb {k:Int} {r:Int} {h:Nat} (F:h≠c) (M:k=43->h≠e) (L:k=44\/k=45->h≠d):(st.execT k i r c e d).2.items h=st.items h:=by
 unfold Stp.execT;split
 . exact Bj F
 split
 . rename_i G;split
   . rfl
   . rw [Bj (M G),Bj F]
 split
 . rename_i G;unfold gF;split
   . split
     . rfl
     . rw [Bj F,Ca (L G)]
   . split
     . rfl
     . split
       . rfl
       . rw [Ca (L G),Bj F]
 . unfold fM
   repeat' split
   all_goals first|rfl|exact Bj F
end
abbrev MZ:Nd:=.mk 0 0 [] []
structure Basic (st:Stp) (k:Int) (s:lB) (l:List Nd):Prop where
 kind:40<=k/\k<=49
 px:(l.getD 0 MZ).kind=2\/(l.getD 0 MZ).kind=3
 vx : ∃c,Vis st (l.getD 0 MZ).name c/\c<st.heap.length
 py:k=43->((l.getD 1 MZ).kind=2\/(l.getD 1 MZ).kind=3) /\ ∃e,Vis st (l.getD 1 MZ).name e/\e<st.heap.length
 vs:k=44\/k=45 -> ∃d,Vis st s d/\d<st.heap.length/\(st.items d).length<=1000/\(l.getD 0 MZ).name≠s
 ix:(l.getD 0 MZ).idx (l.getD 0 MZ).name=false/\(k=43->(l.getD 0 MZ).idx (l.getD 1 MZ).name=false)/\(k=44\/k=45->(l.getD 0 MZ).idx s=false)
 iy:k=43->(l.getD 1 MZ).idx (l.getD 0 MZ).name=false/\(l.getD 1 MZ).idx (l.getD 1 MZ).name=false
 my:40<=k/\k<=42->(l.getD 1 MZ).ment (l.getD 0 MZ).name=false
def FJ {k:Int} (F:40<=k/\k<=49):(40<=Bd k/\Bd k<=49)/\(Bd k=43↔k=43)/\((Bd k=44\/Bd k=45)↔(k=44\/k=45))/\((40<=Bd k/\Bd k<=42)↔(40<=k/\k<=42)):=by
 have h:k=40\/k=41\/k=42\/k=43\/k=44\/k=45\/k=46\/k=47\/k=48\/k=49:=by omega
 rcases h with rfl|rfl|rfl|rfl|rfl|rfl|rfl|rfl|rfl|rfl<;>decide
section
variable {st st':Stp} {k n:Int} {s:lB} {l:List Nd}
def UX (Z:Good st) (M:Basic st k s l) (h:st.exec k s l=(0,st')):st'.exec (Bd k) s l=(0,st):=by
 obtain ⟨c,hc,ah⟩:=M.vx;obtain ⟨e1,e2,e3,e4⟩:=FJ M.kind;rw [MQ] at h;simp only at h;have ai : ∃e,st.cellD (l.getD 1 MZ).name=e/\(k=43->Vis st (l.getD 1 MZ).name e/\e<st.heap.length):=⟨_,rfl,fun G=>by
  obtain ⟨-,e,he,aj⟩:=M.py G;rw [he.cellD];exact ⟨he,aj⟩⟩
 obtain ⟨e,ae,hy⟩:=ai;have ak : ∃d,st.cellD s=d/\(k=44\/k=45->Vis st s d/\d<st.heap.length/\(st.items d).length<=1000):=⟨_,rfl,fun G=>by
  obtain ⟨d,hd,al,O,-⟩:=M.vs G;rw [hd.cellD];exact ⟨hd,al,O⟩⟩
 obtain ⟨d,af,V⟩:=ak;rw [hc.cellD,ae,af] at h;generalize ha:Bi st.look (l.getD 0 (.mk 0 0 [] []))=a at h;generalize hr:(if k=43 then Bi st.look (l.getD 1 (.mk 0 0 [] [])) else if 40<=k/\k<=42 then AT st.look (l.getD 1 (.mk 0 0 [] [])) else (0,0))=r at h;split at h
 . rename_i L;exact absurd (congrArg Prod.fst h) L
 rename_i am;split at h
 . rename_i L;exact absurd (congrArg Prod.fst h) L
 rename_i an;split at h
 . cases h
 rename_i X;have hi:a.1.toNat<(st.items c).length:=by omega
 have aa:=Sw M.kind h hi ah (fun G=>(hy G).2) (fun G=>⟨(V G).2.1,by
  obtain ⟨-,-,-,-,L⟩:=M.vs G;exact fun x=>MU Z.cur hc (V G).1 (fun y=>L y.symm) x.symm,(V G).2.2⟩) ⟨Z.tin,Z.tout⟩ ((Z.rng c).get _)
 have ab:st'=(st.execT k a.1.toNat r.1 c e d).2:=by rw [h]
 obtain ⟨s1,s2,s3⟩:WS st' st:=by rw [ab];exact MS ..
 have N : ∀U,U≠(l.getD 0 MZ).name->(k=43->U≠(l.getD 1 MZ).name)->(k=44\/k=45->U≠s)->st'.look U=st.look U:=fun U O Y h3=>YK s1 s2 fun d' ac=>by
  rw [ab];exact Rb (MU Z.cur hc ac O) (fun G=>MU Z.cur (hy G).1 ac (Y G)) (fun G=>MU Z.cur (V G).1 ac (h3 G))
 have ao:Bi st'.look (l.getD 0 (.mk 0 0 [] []))=a:=by
  rw [<-ha];refine K7 M.px fun U F=>N U ?_ ?_ ?_
  . rintro rfl;rw [M.ix.1] at F;cases F
  . rintro G rfl;rw [M.ix.2.1 G] at F;cases F
  . rintro G rfl;rw [M.ix.2.2 G] at F;cases F
 have ap:(if Bd k=43 then Bi st'.look (l.getD 1 (.mk 0 0 [] [])) else if 40<=Bd k/\Bd k<=42 then AT st'.look (l.getD 1 (.mk 0 0 [] [])) else (0,0))=r:=by
  rw [<-hr];by_cases O:k=43
  . rw [AG O,AG (e2.2 O)];refine K7 (M.py O).1 fun U F=>N U ?_ ?_ (fun G=>by omega)
    . rintro rfl;rw [(M.iy O).1] at F;cases F
    . rintro G rfl;rw [(M.iy O).2] at F;cases F
  . rw [As O,As (fun x=>O (e2.1 x))];by_cases Y:40<=k/\k<=42
    . rw [AG Y,AG (e4.2 Y)];refine IK fun U F=>N U ?_ (fun G=>absurd G O) (fun G=>by omega)
      rintro rfl;rw [M.my Y] at F;cases F
    . rw [As Y,As (fun x=>Y (e4.1 x))]
 rw [MQ];simp only;rw [ao,ap];have aq : ∀ {s c},Vis st s c->st'.cellD s=c:=fun {s c} ⟨i,O,Y⟩=>Vis.cellD (st:=st') ⟨i,by rw [Fd s1 s2];exact O,by rw [Fd s1 s2];exact Y⟩
 have ad : ∀s,st'.cellD s=st.cellD s:=fun s=>by unfold Stp.cellD;rw [Fd s1 s2]
 rw [ad,ad,ad,hc.cellD,ae,af,As am,As an];have ag:(st'.items c).length=(st.items c).length:=by
  rw [ab];unfold Stp.execT;split
  . exact Gm ..
  split
  . split
    . rfl
    . rw [Gm,Gm]
  split
  . rename_i G;have L:c≠d:=by
     obtain ⟨-,-,-,-,L⟩:=M.vs G;exact fun x=>MU Z.cur hc (V G).1 (fun y=>L y.symm) x.symm
    unfold gF;split
    . split
      . rfl
      . rw [Gm,Ca L]
    . split
      . rfl
      . split
        . rfl
        . rw [Ca L,Gm]
  . unfold fM
    repeat' split
    all_goals first|rfl|exact Gm ..
 rw [ag,As X];exact aa
def Lq {k n:Int} {s:lB} {l:List Nd} (h:(st.run1 k n s l).1=0):k≠56/\(Nd.mk k n s l).bad st.cur.vars=0/\st.run1 k n s l=st.exec k s l:=by
 unfold Stp.run1 at h ⊢;split at h
 . cases h
 rename_i G;split at h
 . rename_i F;exact absurd h F
 rename_i F;rw [As G,As F];exact ⟨G,Decidable.not_not.1 F,rfl⟩
def Sx {k:Int} (F:40<=k/\k<=49):CS (Bd k)=CS k:=by
 have h:k=40\/k=41\/k=42\/k=43\/k=44\/k=45\/k=46\/k=47\/k=48\/k=49:=by omega
 rcases h with rfl|rfl|rfl|rfl|rfl|rfl|rfl|rfl|rfl|rfl<;>decide
def UY (M:Good st) (G:Basic st k s l) (h:(st.run1 k n s l).1=0):(st.run1 k n s l).2.run1 (Bd k) n s l=(0,st):=by
 obtain ⟨Y,L,N⟩:=Lq h;obtain ⟨O,U,Z⟩:=IL st k n s l;have e0:=FJ G.kind;have V:st.exec k s l=(0,(st.run1 k n s l).2):=by
  rw [<-N];exact Prod.ext h rfl
 have X:=UX M G V;generalize (st.run1 k n s l).2=st' at *;unfold Stp.run1;have F:(Nd.mk (Bd k) n s l).bad st'.cur.vars=0:=by
  rw [Fd O U];unfold Nd.bad at L ⊢;rw [Sx G.kind];exact L
 rw [As Ab,As (fun x=>x F),X]
def Sy (hG:Good st) (F:Basic st k s l) (h:(st.run1 k n s l).1=0) {ρ:Nat->nP} {a:Stp} (N:Sim ρ a (st.run1 k n s l).2) :
 (a.run1 (Bd k) n s l).1=0/\Sim ρ (a.run1 (Bd k) n s l).2 st:=by
 have G:=UY hG F h;obtain ⟨O,U,s3⟩:=IL st k n s l;obtain ⟨V,X,-⟩:=Lq h;have Y:=FJ F.kind;generalize (st.run1 k n s l).2=st' at *;obtain ⟨h4,h5,h6⟩:=Lq (st:=st') (k:=Bd k) (n:=n) (s:=s) (l:=l) (by rw [G]);rw [h6] at G;have L : ∀ {s c},Vis st s c->Vis st' s c:=fun {s c} ⟨i,V,X⟩=>⟨i,by rw [Fd O U];exact V,by rw [Fd O U];exact X⟩
 obtain ⟨c,hc,-⟩:=F.vx;have Z:=N.exec (Bd k) s l ⟨c,L hc⟩ (fun M=>by
  obtain ⟨-,e,he,-⟩:=F.py (Y.2.1.1 M);exact ⟨e,L he⟩) (fun M=>by
  obtain ⟨d,hd,-⟩:=F.vs (Y.2.2.1.1 M);exact ⟨d,L hd⟩)
 rw [G] at Z;have e:a.run1 (Bd k) n s l=a.exec (Bd k) s l:=by
  unfold Stp.run1;rw [As h4,N.cur.vars,As (fun x=>x h5)]
 rw [e];exact Z
end
def Rv (f f':Rn->Except Int Rn) (v:List VD):Prop:= ∀(st:Stp) (M:Nat) (r':Rn),Good st->st.cur.vars=v->f ⟨st,M⟩ = .ok r' ->
 Good r'.st/\r'.st.base=st.base/\r'.st.calls=st.calls/\st.heap.length<=r'.st.heap.length/\r'.rem<=M /\
 ∀(ρ:Nat->nP) (a:Stp),(∀c d,ρ c d->d<st.heap.length)->Sim ρ a r'.st -> ∃a',Sim ρ a' st /\ ∀F,M-r'.rem<=F->f' ⟨a,F⟩ = .ok ⟨a',F-(M-r'.rem)⟩
section
variable {v:List VD}
def K8 (f:Nd->Rn->Except Int Rn) : ∀(l m:List Nd) (r:Rn),E2 f (l++m) r=(E2 f l r).bind (E2 f m)
 | [],m,r=>rfl
 | t::l,m,r=>by
  simp only [List.cons_append,E2];cases f t r with
  | error e=>rfl
  | ok h=>exact K8 f l m h
def Rv.row {f f':Nd->Rn->Except Int Rn} : ∀(l:List Nd),(∀t∈l,Rv (f t) (f' t) v)->Rv (E2 f l) (E2 f' l.reverse) v
 | [],_=>fun st M X G L h=>by
  cases h;exact ⟨G,rfl,rfl,cH _,cH _,fun ρ a _ N=>⟨a,N,fun F _=>by simp only [Nat.sub_self,Nat.sub_zero];rfl⟩⟩
 | t::l,Y=>fun st M X G L h=>by
  obtain ⟨O,h1,h2⟩:=A6 h;obtain ⟨g1,Z,c1,l1,m1,k1⟩:=Y t AR st M O G L h1;obtain ⟨g2,b2,c2,l2,m2,k2⟩:=Rv.row l (fun x hx=>Y x (by simp [hx])) O.st O.rem X g1 (by rw [Fd Z c1];exact L) h2;refine ⟨g2,b2.trans Z,c2.trans c1,dV l1 l2,dV m2 m1,fun ρ a hρ N=>?_⟩;obtain ⟨a1,U,e1⟩:=k2 ρ a (fun c d h=>Nat.lt_of_lt_of_le (hρ c d h) l1) N;obtain ⟨a2,V,e2⟩:=k1 ρ a1 hρ U;refine ⟨a2,V,fun F hF=>?_⟩;rw [List.reverse_cons,K8,e1 F Ab];simp only [cJ,E2];rw [e2 _ Ab];simp only [Except.ok.injEq,Rn.mk.injEq,true_and];omega
def Rv.block {f f':Bool->Nd->Rn->Except Int Rn} {b:Bool} {t:Nd} (h : ∀x∈t.kids,Rv (f b x) (f' (!b) x) v):Rv (AD f b t) (AD f' (!b) t) v:=by
 cases b with
 | false=>exact Rv.row t.kids h
 | true=>
  have:=Rv.row (f:=f true) (f':=f' false) t.kids.reverse (fun x F=>h x (by simpa using F));rw [List.reverse_reverse] at this;exact this
def Fo (st:Stp) {F:Nat} (h:1<=F):A7 ⟨st,F⟩ = .ok ⟨st,F-1⟩:=by
 unfold A7;rw [As (by simp only;omega)]
def KG {st:Stp} {t:Nd} {x:Int} (F:Nat) (h:AT st.look t=(x,0)):BH t ⟨st,F⟩ = .ok x:=by
 unfold BH;simp only [h];rfl
def IM {st:Stp} {t:Nd} {x:Int} {F:Nat} (G:1<=F) (h:AT st.look t=(x,0)):BL t ⟨st,F⟩ = .ok (decide (x≠0),⟨st,F-1⟩):=by
 unfold BL;rw [Fo st G];simp only [cJ];rw [KG _ h]
def Jm {st:Stp} {t:Nd} {x:Int} {q:Bool} {F:Nat} (G:1<=F) (h:AT st.look t=(x,0)) (L:q=decide (x≠0)):Bp t q ⟨st,F⟩ = .ok ⟨st,F-1⟩:=by
 unfold Bp;rw [IM G h];simp only [cJ];rw [As (by rw [L];simp)]
def Jn {f:Stp->Int×Stp} {st:Stp} (F:Nat) (h:(f st).1=0):CI f ⟨st,F⟩ = .ok ⟨(f st).2,F⟩:=by
 unfold CI;rw [As (by simp only;omega)]
def Sim.ev {ρ:Nat->nP} {a b:Stp} (h:Sim ρ a b) {t:Nd} {x:Int×Int} (e:AT b.look t=x):AT a.look t=x:=by rw [h.look,e]
def Rv.branch {g g':Bool->Rn->Except Int Rn} (x u:Nd) (hg : ∀p,Rv (g p) (g' p) v) :
 Rv (fun r=>(BL x r).bind fun p=>(g p.1 p.2).bind (Bp u p.1)) (fun r=>(BL u r).bind fun p=>(g' p.1 p.2).bind (Bp x p.1)) v:=fun st M r' hG hv h=>by
 obtain ⟨p,h1,h⟩:=A6 h;obtain ⟨r1,Y,Z⟩:=A6 h;obtain ⟨hM,G,x0,L,N⟩:=F6 h1;obtain ⟨p1,p2⟩:=p;simp only at N G Y Z hM L;subst G;obtain ⟨g1,b1,c1,l1,m1,k1⟩:=hg p1 st (M-1) r1 hG hv Y;obtain ⟨V,rfl,u0,O,X⟩:=Ey Z;simp only at V O ⊢;refine ⟨g1,b1,c1,l1,Ab,fun ρ a hρ hS=>?_⟩;obtain ⟨a1,U,e1⟩:=k1 ρ a hρ hS;refine ⟨a1,U,fun F hF=>?_⟩;rw [IM Ab (hS.ev O)];simp only [cJ];rw [<-X,e1 _ Ab];simp only;rw [Jm Ab (U.ev L) N];simp only [Except.ok.injEq,Rn.mk.injEq,true_and];omega
def N9 (b1 b2:Rn->Except Int Rn) (test entry:Nd) (k:Nat) (r:Rn):Except Int Rn:=
 (BL test r).bind fun p=>if p.1 then .ok p.2 else (b2 p.2).bind fun r=>(Bp entry false r).bind (Cs b1 b2 test entry k)
def Jo (h F:Rn->Except Int Rn) (test entry:Nd) (k:Nat) (r:Rn):Cs h F test entry (k+1) r=(h r).bind (N9 h F test entry k):=rfl
def Oa {b1 b2 N O:Rn->Except Int Rn} (first G:Nd) (h1:Rv b1 N v) (h2:Rv b2 O v) : ∀(m:Nat) (st:Stp) (M:Nat) (L:Rn),Good st->st.cur.vars=v->Cs b1 b2 G first m ⟨st,M⟩ = .ok L ->
 Good L.st/\L.st.base=st.base/\L.st.calls=st.calls/\st.heap.length<=L.st.heap.length/\L.rem<M/\(∃x,AT L.st.look G=(x,0)/\decide (x≠0)=true) /\
 ∃j,j+1<=m /\ ∀(ρ:Nat->nP) (a:Stp),(∀c d,ρ c d->d<st.heap.length)->Sim ρ a L.st -> ∃a',Sim ρ a' st /\
  ∀k F,M-L.rem-1<=F->Cs N O first G (k+j+1) ⟨a,F⟩=N9 N O first G k ⟨a',F-(M-L.rem-1)⟩
 | 0,st,M,L,_,_,h=>by cases h
 | m+1,st,M,L,hG,hv,h=>by
  rw [Jo] at h;obtain ⟨U,e1,h⟩:=A6 h;obtain ⟨g1,p1,c1,l1,m1,k1⟩:=h1 st M U hG hv e1;unfold N9 at h;obtain ⟨p,e2,h⟩:=A6 h;obtain ⟨hM,Z,x0,aa,V⟩:=F6 e2;obtain ⟨q,r2⟩:=p;simp only at V Z h;subst Z;cases q with
  | true=>
   rw [AG rfl] at h;cases h;simp only;refine ⟨g1,p1,c1,l1,Ab,⟨x0,aa,V.symm⟩,0,Ab,fun ρ a hρ hS=>?_⟩;obtain ⟨a1,X,f1⟩:=k1 ρ a hρ hS;refine ⟨a1,X,fun k F hF=>?_⟩;rw [Nat.add_zero,Jo,f1 F Ab];simp only [cJ];rw [show F-(M-U.rem)=F-(M-(U.rem-1)-1) by omega]
  | false=>
   rw [As AR] at h;obtain ⟨r3,e3,h⟩:=A6 h;obtain ⟨g2,p2,c2,l2,m2,k2⟩:=h2 U.st (U.rem-1) r3 g1 (by rw [Fd p1 c1];exact hv) e3;obtain ⟨r4,e4,h⟩:=A6 h;obtain ⟨af,rfl,y0,ad,ae⟩:=Ey e4;obtain ⟨g3,p3,c3,l3,m3,Y,j,hj,k3⟩:=Oa first G h1 h2 m r3.st (r3.rem-1) L g2 (by rw [Fd p2 c2,Fd p1 c1];exact hv) h;refine ⟨g3,p3.trans (p2.trans p1),c3.trans (c2.trans c1),Ab,Ab,Y,j+1,Ab,fun ρ a hρ hS=>?_⟩;obtain ⟨a3,ab,f3⟩:=k3 ρ a (fun c d h=>by have:=hρ c d h;omega) hS;obtain ⟨a2,ac,f2⟩:=k2 ρ a3 (fun c d h=>by have:=hρ c d h;omega) ab;obtain ⟨a1,X,f1⟩:=k1 ρ a2 hρ ac;refine ⟨a1,X,fun k F hF=>?_⟩;rw [show k+(j+1)+1=(k+1)+j+1 by omega,f3 (k+1) F Ab];unfold N9;rw [IM Ab (ab.ev ad)];simp only [cJ];rw [<-ae,As AR,f2 _ Ab];simp only;rw [Jm Ab (ac.ev aa) V];simp only;rw [Jo,f1 _ Ab];simp only [cJ];unfold N9;rw [show F-(r3.rem-1-L.rem-1)-1-(U.rem-1-r3.rem)-1-(M-U.rem)=F-(M-L.rem-1) by omega];rfl
def Rv.loop {Z b2 L N:Rn->Except Int Rn} (first G:Nd) (h1:Rv Z L v) (h2:Rv b2 N v) (m:Nat) :
 Rv (fun r=>(Bp first true r).bind (Cs Z b2 G first m)) (fun r=>(Bp G true r).bind (Cs L N first G m)) v:=fun st M r' hG hv h=>by
 obtain ⟨r1,e1,h⟩:=A6 h;obtain ⟨hM,rfl,x0,O,V⟩:=Ey e1;simp only at hM O h;obtain ⟨g3,p3,c3,l3,m3,⟨y0,X,Y⟩,j,hj,k3⟩:=Oa first G h1 h2 m st (M-1) r' hG hv h;refine ⟨g3,p3,c3,l3,Ab,fun ρ a hρ hS=>?_⟩;obtain ⟨a3,U,f3⟩:=k3 ρ a hρ hS;refine ⟨a3,U,fun F hF=>?_⟩;show (Bp G true ⟨a,F⟩).bind (Cs L N first G m)=_;rw [Jm Ab (hS.ev X) Y.symm];simp only [cJ];obtain ⟨k,rfl⟩ : ∃k,m=k+j+1:=⟨m-(j+1),Ab⟩;rw [f3 k _ Ab];unfold N9;rw [IM Ab (U.ev O)];simp only [cJ];rw [<-V,AG rfl];simp only [Except.ok.injEq,Rn.mk.injEq,true_and];omega
end
def Jp {F:List Nd} {G:List lB} (h:(EO (DL F G)).2=0) : ∀t∈F,∀s∈G,t.idx s=false:=fun t L s M=>by
 unfold DL at h;cases e:F.findSome? fun t=>G.find? fun s=>t.idx s with
 | some x=>rw [e] at h;cases h
 | none=>
  have N:=List.findSome?_eq_none_iff.1 e t L;have O:=List.find?_eq_none.1 N s M;simpa using O
section
variable {st:Stp} {K:List (Int×Int)} {m:Nat}
def GU (N:st.WF K m) {x:Nd} (M:x.isPlace=true) (X:x.bad st.cur.vars=0):(x.kind=2\/x.kind=3)/\(∃c,Vis st x.name c/\c<st.heap.length)/\EC st.cur.vars x.name 3≠0:=by
 have O:x.kind=2\/x.kind=3:=by
  simp only [Nd.isPlace,bZ,Bool.or_eq_true,beq_iff_eq] at M;exact M.1
 have L : ∀k,EC st.cur.vars x.name k=0->k≠3->EC st.cur.vars x.name 3≠0:=fun k F G L=>by
  obtain ⟨i,a,Y,Z,h6⟩:=R1 F;obtain ⟨j,b,U,V,h9⟩:=R1 L;rw [Y] at U;obtain rfl:=cD U;rw [Z] at V;obtain rfl:=cD V;exact G (h6.symm.trans h9)
 rcases UU M X with h|h
 . obtain ⟨c,y,F,G,-⟩:=N.vis h;exact ⟨O,⟨c,F,G⟩,L 1 h AY⟩
 . obtain ⟨c,y,F,G,-⟩:=N.vis h;exact ⟨O,⟨c,F,G⟩,L 2 h AY⟩
def WT (hw:st.WF K m) {k k1 n:Int} {s:lB} {l:List Nd} (ht:(Nd.mk k n s l).isStmt=true) (G:(Fc (.mk k n s l)).2=0) (hk:k<50\/55<k) (h1:k1=k\/k1=Bd k) (ab:(Nd.mk k1 n s l).bad st.cur.vars=0):Basic st k1 s l:=by
 obtain ⟨hu,F⟩:=JQ ab;cases BT ht with
 | upd M U hy=>
  rename_i x y;rw [Fc] at G;by_cases ac:k=56
  . rw [AG ac] at G;cases G
  have V:40<=k/\k<=42:=by omega
  rw [As ac,AG V] at G;obtain ⟨e1,e2,e3,e4⟩:=FJ (show 40<=k/\k<=49 by omega);have N:40<=k1/\k1<=42:=by
   rcases h1 with rfl|rfl
   . exact V
   . exact e4.2 V
  obtain ⟨L,F⟩:=Cu F;obtain ⟨X,Y,-⟩:=GU hw U L;split at G
  . cases G
  rename_i Z;simp only [Bool.or_eq_true,not_or,Bool.not_eq_true] at Z;exact ⟨Ab,X,Y,fun h=>by omega,fun h=>by omega,⟨Z.1,fun h=>by omega,fun h=>by omega⟩,fun h=>by omega,fun _=>Z.2⟩
 | swap U hy=>
  rename_i x y;have N:k1=43:=by rcases h1 with rfl|rfl<;>decide
  subst N;rw [Fc] at G;rw [As AY,As AY,AG rfl] at G;have O:=Jp G;obtain ⟨L,F⟩:=Cu F;obtain ⟨ae,F⟩:=Cu F;obtain ⟨X,Y,-⟩:=GU hw U L;obtain ⟨q1,q2,-⟩:=GU hw hy ae;exact ⟨AY,X,Y,fun _=>⟨q1,q2⟩,fun h=>by omega,⟨O x AR _ AR,fun _=>O x AR _ AR,fun h=>by omega⟩,fun _=>⟨O y AR _ AR,O y AR _ AR⟩,fun h=>by omega⟩
 | stack M hn U=>
  rename_i x;have af:44<=k/\k<=45:=by omega
  obtain ⟨e1,e2,e3,e4⟩:=FJ (show 40<=k/\k<=49 by omega);have N:k1=44\/k1=45:=by
   rcases h1 with rfl|rfl
   . exact M
   . exact e3.2 M
  rw [Fc] at G;rw [As Ab,As Ab,As Ab,AG af] at G;have O:=Jp G;obtain ⟨L,F⟩:=Cu F;obtain ⟨X,Y,p3⟩:=GU hw U L;have ad:CS k1=3:=by rcases N with rfl|rfl<;>decide
  have aa:=hu (by rw [ad];decide);rw [ad] at aa;obtain ⟨d,y,d1,d2,-,d4,d5⟩:=hw.vis aa;refine ⟨Ab,X,Y,fun h=>by omega,fun _=>⟨d,d1,d2,?_,fun e=>p3 ?_⟩,⟨O x AR _ AR,fun h=>by omega,fun _=>O x AR _ AR⟩,fun h=>by omega,fun h=>by omega⟩
  . rcases d5 with ⟨h,-⟩|⟨h,-⟩|⟨-,h⟩
    . omega
    . omega
    . exact h
  . have e':x.name=s:=e;rw [e'];exact aa
 | tape M U=>
  rename_i x;obtain ⟨e1,e2,e3,e4⟩:=FJ (show 40<=k/\k<=49 by omega);have N:k1=46\/k1=47\/k1=48\/k1=49:=by
   have:40<=k1/\k1<=49/\(k1=43↔k=43)/\((k1=44\/k1=45)↔(k=44\/k=45))/\((40<=k1/\k1<=42)↔(40<=k/\k<=42)):=by
    rcases h1 with rfl|rfl
    . exact ⟨Ab,Ab,Iff.rfl,Iff.rfl,Iff.rfl⟩
    . exact ⟨e1.1,e1.2,e2,e3,e4⟩
   omega
  rw [Fc] at G;rw [As Ab,As Ab,As Ab,As Ab,AG Ab] at G;have O:=Jp G;obtain ⟨L,F⟩:=Cu F;obtain ⟨X,Y,-⟩:=GU hw U L;exact ⟨Ab,X,Y,fun h=>by omega,fun h=>by omega,⟨O x AR _ AR,fun h=>by omega,fun h=>by omega⟩,fun h=>by omega,fun h=>by omega⟩
 | call M _ _ _=>omega
 | branch M _ _ _ _=>omega
 | local_ _ _ _ _=>omega
 | lstack _ _=>omega
end
def Rv.basic (ps:List PD) (d:Nat) (b:Bool) {k n:Int} {s:lB} {l:List Nd} (O:(Nd.mk k n s l).isStmt=true) (U:(Fc (.mk k n s l)).2=0) (G:k<50\/55<k) (v:List VD):Rv (Au ps (d+1) b (.mk k n s l)) (Au ps (d+1) (!b) (.mk k n s l)) v:=fun st M r' L hv h=>by
 rw [Cw ps d b G] at h;obtain ⟨r1,V,h⟩:=A6 h;obtain ⟨X,rfl⟩:=C4 V;obtain ⟨N,rfl⟩:=Fl h;simp only at N X ⊢;obtain ⟨K,m,Y⟩:=L.wf;obtain ⟨h1,Z,h3⟩:=Lq N;have hB:=WT Y O U G (k1:=if b then Bd k else k) (by cases b<;>simp) Z;obtain ⟨s1,s2,s3⟩:=IL st (if b then Bd k else k) n s l;refine ⟨L.run1 ..,s1,s2,Nat.le_of_eq s3.symm,Ab,fun ρ a hρ hS=>?_⟩;obtain ⟨q1,q2⟩:=Sy L hB N hS;refine ⟨_,q2,fun F hF=>?_⟩;rw [Cw ps d (!b) G,Fo a Ab];have e:(if (!b)=true then Bd k else k)=Bd (if b=true then Bd k else k):=by cases b<;>simp [Es]
 simp only [cJ];rw [e,Jn _ q1];simp only [Except.ok.injEq,Rn.mk.injEq,true_and];omega
section
variable {ρ:Nat->nP} {st st' a b:Stp} {f g:Frm} {v:List VD}
def setCur_heapR:(st.setCur f).heap=st.heap:=by unfold fU;split<;>rfl
def setCur_tin:(st.setCur f).tin=st.tin:=by unfold fU;split<;>rfl
def setCur_tout:(st.setCur f).tout=st.tout:=by unfold fU;split<;>rfl
def ET (c:Nat):(st.setCur f).items c=st.items c:=by unfold fZ;rw [setCur_heapR]
def KH (h:a.base=b.base) (F:a.calls=b.calls):(a.setCur f).base=(b.setCur f).base/\(a.setCur f).calls=(b.setCur f).calls:=by
 unfold fU;rw [F];split
 . exact ⟨rfl,rfl⟩
 . exact ⟨h,rfl⟩
def Hr:(st.setCur f).cur=f:=by
 unfold fU Stp.cur;split
 . rename_i h;simp [h]
 . simp
def Hs:((st.setCur f).setCur g).base=(st.setCur g).base/\((st.setCur f).setCur g).calls=(st.setCur g).calls:=by
 unfold fU;by_cases h:st.calls=[]
 . simp [h]
 . simp [h]
def Ir:(st.setCur st.cur).base=st.base/\(st.setCur st.cur).calls=st.calls:=by
 unfold fU Stp.cur;rcases List.eq_nil_or_concat st.calls with h|⟨l,x,h⟩
 . simp [h]
 . simp [h]
def Sim.setCur (h:Sim ρ a b) (M:FrmS ρ f g):Sim ρ (a.setCur f) (b.setCur g):=by
 unfold fU;by_cases L:b.calls=[]
 . rw [AG L,AG (h.nil.2 L)];exact ⟨M,h.nc,h.call,h.tin,h.tout,h.items,h.lt,h.inj⟩
 . rw [As L,As (fun x=>L (h.nil.1 x))];refine ⟨h.base,by simp [h.nc],fun i f' g' F G=>?_,h.tin,h.tout,h.items,h.lt,h.inj⟩;simp only at F G;have N:=h.nc;rcases cO i (b.calls.length-1) with O|O
   . rw [cK (by simp;omega),List.getElem?_dropLast,AG Ab] at F;rw [cK (by simp;omega),List.getElem?_dropLast,AG Ab] at G;exact h.call i _ _ F G
   . rw [cW (by simp;omega)] at F G;simp only [List.length_dropLast] at F G;have U:=(List.getElem?_eq_some_iff.1 F).1;simp only [cF,dD] at U;rw [show i-(a.calls.length-1)=0 by omega] at F;rw [show i-(b.calls.length-1)=0 by omega] at G;simp only [dF,cE] at F G;subst F G;exact M
def FrmS.mono {ρ':Nat->nP} (h:FrmS ρ f g) (G : ∀c d,d∈g.cells->ρ c d->ρ' c d):FrmS ρ' f g:=
 ⟨h.vars,h.locals,h.len,fun i c d L F=>G c d (dL F) (h.cell i c d L F)⟩
def Good.lt (h:Good st) {f:Frm} (G:f∈st.base::st.calls) {c:Nat} (L:c∈f.cells):c<st.heap.length:=by
 obtain ⟨K,m,F⟩:=h.wf;rw [F.len];exact (F.all' f G).lt L
def Good.len (h:Good st):st.cur.vars.length=st.cur.cells.length:=by
 obtain ⟨K,m,F⟩:=h.wf;exact F.cur.len
def WU {d:VD} {x:Int} (h:(st.opens d x).1=0):BR d.name st.cur.vars=none/\(st.opens d x).2={ st.setCur ⟨st.cur.vars++[d],st.cur.cells++[st.heap.length],st.cur.locals+1⟩ with heap:=st.heap++[if d.kind=1 then [x] else []] }:=by
 unfold Stp.opens at h ⊢;split at h
 . cases h
 . rename_i F;rw [As F];refine ⟨?_,rfl⟩;cases e:BR d.name st.cur.vars with
   | none=>rfl
   | some i=>rw [e] at F;exact absurd rfl F
def KI {d:VD} (x:Int) (h:BR d.name st.cur.vars=none):st.opens d x=(0,{ st.setCur ⟨st.cur.vars++[d],st.cur.cells++[st.heap.length],st.cur.locals+1⟩ with heap:=st.heap++[if d.kind=1 then [x] else []] }):=by
 unfold Stp.opens;rw [h,As AR]
def Stp.plus (st:Stp) (d:VD) (xs:List Int):Stp:={ st.setCur ⟨st.cur.vars++[d],st.cur.cells++[st.heap.length],st.cur.locals+1⟩ with heap:=st.heap++[xs] }
def Kd {d:VD} {xs:List Int}:(st.plus d xs).cur=⟨st.cur.vars++[d],st.cur.cells++[st.heap.length],st.cur.locals+1⟩:=Hr (st:=st)
def F9 {d:VD} {xs:List Int} (c:Nat):(st.plus d xs).items c=if c=st.heap.length then xs else st.items c:=by
 unfold Stp.plus fZ;simp only [cB];rcases Nat.lt_trichotomy c st.heap.length with h|h|h
 . rw [cK h,As Ab]
 . subst h;simp
 . rw [As Ab,cI (by simp;omega),cI Ab]
def Rc {d:VD} {xs:List Int}:(st.plus d xs).heap.length=st.heap.length+1:=by simp [Stp.plus]
def Good.plus (h:Good st) {d:VD} {x:Int} (G:d.kind=1\/d.kind=3) (M:Fp x) (N:BR d.name st.cur.vars=none):Good (st.plus d (if d.kind=1 then [x] else [])):=by
 obtain ⟨K,m,O⟩:=h.wf;obtain ⟨U,F⟩:=O.opens G x;rw [KI x N] at F;refine ⟨⟨U,m+1,F⟩,fun c=>?_,?_,?_,?_,?_,fun f V=>?_⟩
 . rw [F9];split
   . split
     . intro y L;rw [List.mem_singleton.1 L];exact M
     . intro y L;cases L
   . exact h.rng c
 . show (st.setCur _).tin.length<=4096;rw [setCur_tin];exact h.tin
 . show (st.setCur _).tout.length<=4096;rw [setCur_tout];exact h.tout
 . show RngL (st.setCur _).tin;rw [setCur_tin];exact h.tinR
 . show RngL (st.setCur _).tout;rw [setCur_tout];exact h.toutR
 . rcases L9 (st:=st) V with rfl|X
   . refine List.nodup_append.2 ⟨h.cur,AR,fun c Y d G e=>?_⟩;have:=h.lt (IC st) Y;rw [List.mem_singleton.1 G] at e;omega
   . exact h.nodup f X
def Ob {s:lB} {x:Int} {d:VD} {vs:List VD} {cs:List Nat} {n c0:Nat} (h:st.cur=⟨vs++[d],cs++[c0],n+1⟩) (F:vs.length=cs.length) (G:d.name=s) :
 st.closes s x=if d.kind=1/\(st.items c0).getD 0 0≠x\/d.kind=3/\0<(st.items c0).length then (16,st) else (0,st.setCur ⟨vs,cs,n⟩):=by
 unfold Stp.closes;rw [h];simp only [cP,cF,dD,eJ,Nat.add_sub_cancel,cB,List.dropLast_concat];rw [cW (cH _),F,cW (cH _)];simp only [Nat.sub_self,dF,Option.getD_some];rw [As (by rw [G];simp)]
def Holds (d:VD) (x:Int) (xs:List Int):Prop:=xs=if d.kind=1 then [x] else []
def Sz {s:lB} {x:Int} {d:VD} {vs:List VD} {cs:List Nat} {n c0:Nat} (O:d.kind=1\/d.kind=3) (L:st.cur=⟨vs++[d],cs++[c0],n+1⟩) (M:vs.length=cs.length) (N:d.name=s) (h:Holds d x (st.items c0)) :
 st.closes s x=(0,st.setCur ⟨vs,cs,n⟩):=by
 rw [Ob L M N,As];unfold Holds at h;rw [h];rintro (⟨G,F⟩|⟨G,F⟩)
 . rw [AG G] at F;exact F rfl
 . rw [As Ab] at F;simp at F
def Rd {s:lB} {x:Int} {d:VD} {vs:List VD} {cs:List Nat} {n c0:Nat} (L:st.cur=⟨vs++[d],cs++[c0],n+1⟩) (M:vs.length=cs.length) (N:d.name=s) (V:d.kind=1\/d.kind=3) (O:d.kind=1->(st.items c0).length=1)
 (h:(st.closes s x).1=0):Holds d x (st.items c0)/\(st.closes s x).2=st.setCur ⟨vs,cs,n⟩:=by
 rw [Ob L M N] at h ⊢;split at h
 . cases h
 rename_i F;rw [As F];refine ⟨?_,rfl⟩;unfold Holds;simp only [not_or,not_and,Decidable.not_not] at F;split
 . rename_i G;obtain ⟨y,U⟩:=List.length_eq_one_iff.1 (O G);have:=F.1 G;rw [U] at this ⊢;simp at this;rw [this]
 . exact List.eq_nil_of_length_eq_zero (by have:=F.2 Ab;omega)
def Sim.plus {e:Nat} (h:Sim ρ a b) (hl:b.cur.vars.length=b.cur.cells.length) {d:VD} {xs:List Int} {L:Stp} (U:L.base=(b.setCur ⟨b.cur.vars++[d],b.cur.cells++[e],b.cur.locals+1⟩).base)
 (N:L.calls=(b.setCur ⟨b.cur.vars++[d],b.cur.cells++[e],b.cur.locals+1⟩).calls) (M:L.heap=b.heap) (Y:L.tin=b.tin) (V:L.tout=b.tout) (he:e<b.heap.length) (hx:b.items e=xs) (hρ : ∀c d,ρ c d->d≠e) :
 Sim (fun c d=>ρ c d\/(c=a.heap.length/\d=e)) (a.plus d xs) L:=by
 have hf:FrmS (fun c d=>ρ c d\/(c=a.heap.length/\d=e)) ⟨a.cur.vars++[d],a.cur.cells++[a.heap.length],a.cur.locals+1⟩ ⟨b.cur.vars++[d],b.cur.cells++[e],b.cur.locals+1⟩:=by
  have X:=h.cur;refine ⟨by simp [X.vars],by simp [X.locals],by simp [X.len],fun i c Z F G=>?_⟩;simp only at F G;have aa:=X.len;rcases cO i b.cur.cells.length with hi|hi
  . rw [cK Ab] at F G;exact bW (X.cell i c Z F G)
  . rw [cW Ab] at F G;have h3:=(List.getElem?_eq_some_iff.1 F).1;simp only [cF,dD] at h3;rw [show i-a.cur.cells.length=0 by omega] at F;rw [show i-b.cur.cells.length=0 by omega] at G;simp only [dF,cE] at F G;exact bX ⟨F.symm,G.symm⟩
 have h0:Sim (fun c d=>ρ c d\/(c=a.heap.length/\d=e)) { a with heap:=a.heap++[xs] } b:=by
  refine ⟨h.base.mono fun c d _=>bW,h.nc,fun i f g F G=>(h.call i f g F G).mono fun c d _=>bW,h.tin,h.tout,fun c Z O=>?_,fun c Z O=>?_,fun c Z c' ab F G=>?_⟩
  . have hi : ∀c,({ a with heap:=a.heap++[xs] }:Stp).items c=(a.plus d xs).items c:=fun c=>rfl
    rw [hi,F9];rcases O with O|⟨rfl,rfl⟩
    . have:=h.lt _ _ O;rw [As Ab,h.items _ _ O]
    . rw [AG rfl,hx]
  . simp only [cP,cF,dD];rcases O with O|⟨rfl,rfl⟩
    . have:=h.lt _ _ O;omega
    . omega
  . rcases F with F|⟨rfl,rfl⟩
    . rcases G with G|⟨rfl,rfl⟩
      . exact h.inj _ _ _ _ F G
      . have:=h.lt _ _ F;have:=hρ _ _ F;constructor<;>intro<;>omega
    . rcases G with G|⟨rfl,rfl⟩
      . have:=h.lt _ _ G;have:=hρ _ _ G;constructor<;>intro<;>omega
      . simp
 have F:=h0.setCur hf;have e2:({ a with heap:=a.heap++[xs] }:Stp).setCur ⟨a.cur.vars++[d],a.cur.cells++[a.heap.length],a.cur.locals+1⟩=a.plus d xs:=by
  unfold Stp.plus fU;by_cases X:a.calls=[]<;>simp [X]
 rw [e2] at F;have e3:L=b.setCur ⟨b.cur.vars++[d],b.cur.cells++[e],b.cur.locals+1⟩:=by
  refine Stp.eq_of U N (by rw [Y,setCur_tin]) (by rw [V,setCur_tout]) (by rw [M,setCur_heapR]) fun c=>?_
  rw [ET];unfold fZ;rw [M]
 rw [e3];exact F
def Sim.minus {e:Nat} {d:VD} {xs:List Int} (hG:Good b) (h:Sim (fun c d=>ρ c d\/(c=e/\d=b.heap.length)) a (b.plus d xs)) (hρ : ∀c d,ρ c d->d<b.heap.length) :
 ∃cs c0,a.cur=⟨b.cur.vars++[d],cs++[c0],b.cur.locals+1⟩/\b.cur.vars.length=cs.length/\a.items c0=xs/\Sim ρ (a.setCur ⟨b.cur.vars,cs,b.cur.locals⟩) b:=by
 have X:=h.cur;rw [Kd] at X;obtain ⟨va,ca,Z⟩ : ∃va ca,∃Z,a.cur=⟨va,ca,Z⟩:=⟨_,_,_,rfl⟩;obtain ⟨Z,G⟩:=Z;have O:=X.vars;have U:=X.locals;have L:=X.len;rw [G] at O U L;simp only [cP,cF,dD] at O U L;rcases List.eq_nil_or_concat ca with rfl|⟨cs,c0,rfl⟩
 . simp at L
 rw [List.concat_eq_append] at *;simp only [cP,cF,dD] at L;have F:=X.cell;rw [G] at F;simp only at F;have aa:=hG.len;have h0:=F cs.length c0 b.heap.length AR (by rw [show cs.length=b.cur.cells.length by omega,cW (cH _)];simp);have hf:FrmS (fun c d=>ρ c d\/(c=e/\d=b.heap.length)) ⟨b.cur.vars,cs,b.cur.locals⟩ b.cur:=⟨rfl,rfl,by simp only;omega,fun i c d' M V=>by
  simp only at M;have hi:=(List.getElem?_eq_some_iff.1 M).1;exact F i c d' (by rw [cK hi];exact M) (by rw [cK Ab];exact V)⟩
 have hS:=h.setCur hf;refine ⟨cs,c0,by rw [G,O,U],Ab,?_,?_⟩
 . have M:=h.items c0 b.heap.length h0;rw [M,F9,AG rfl]
 . have hb:((b.plus d xs).setCur b.cur).base=b.base/\((b.plus d xs).setCur b.cur).calls=b.calls:=by
    have e1:=KH (a:=b.plus d xs) (b:=b.setCur ⟨b.cur.vars++[d],b.cur.cells++[b.heap.length],b.cur.locals+1⟩) (f:=b.cur) rfl rfl;have e2:=Hs (st:=b) (f:=⟨b.cur.vars++[d],b.cur.cells++[b.heap.length],b.cur.locals+1⟩) (g:=b.cur);have e3:=Ir (st:=b);exact ⟨e1.1.trans (e2.1.trans e3.1),e1.2.trans (e2.2.trans e3.2)⟩
   have Y : ∀ {g:Frm},g∈b.base::b.calls -> ∀c d,d∈g.cells->(ρ c d\/(c=e/\d=b.heap.length))->ρ c d:=fun {g} hg c d hd N=>by
    rcases N with N|⟨-,rfl⟩
    . exact N
    . have:=hG.lt hg hd;omega
   refine ⟨?_,by rw [hS.nc,hb.2],fun i f g M V=>?_,?_,?_,fun c d' N=>?_,fun c d' N=>?_,fun c d' c' ab M V=>h.inj _ _ _ _ (bW M) (bW V)⟩
   . have:=hS.base;rw [hb.1] at this;exact this.mono (Y AR)
   . exact (hS.call i f g M (by rw [hb.2];exact V)).mono (Y (by simp [dL V]))
   . rw [setCur_tin,h.tin];exact setCur_tin (st:=b)
   . rw [setCur_tout,h.tout];exact setCur_tout (st:=b)
   . rw [ET,h.items _ _ (bW N),F9,As (by have:=hρ _ _ N;omega)]
   . rw [setCur_heapR];exact ⟨(h.lt _ _ (bW N)).1,hρ _ _ N⟩
end
section
variable {ρ:Nat->nP} {st st' a b:Stp} {f g:Frm} {v:List VD}
def Oc {vs:List VD} {cs:List Nat} {d:VD} {c0 n m:Nat} (h:a.cur=⟨vs++[d],cs++[c0],n⟩) (F:b.cur=⟨vs,cs,m⟩) (M:vs.length=cs.length) {s:lB} (G:s≠d.name) (L : ∀c∈cs,a.items c=b.items c):a.look s=b.look s:=by
 unfold Stp.look Frm.cell;rw [h,F];simp only;rw [Je,As (fun e=>G e.symm)];cases e:BR s vs with
 | none=>rfl
 | some i=>
  have:=Ef e;simp only [Option.bind_some];rw [cK Ab,bT (show i<cs.length by omega)];simp only [Option.map_some];rw [L _ (cL _)]
def UZ {d:VD} {xs:List Int}:((b.plus d xs).setCur b.cur).base=b.base/\((b.plus d xs).setCur b.cur).calls=b.calls:=by
 have h:=KH (a:=b.plus d xs) (b:=b.setCur ⟨b.cur.vars++[d],b.cur.cells++[b.heap.length],b.cur.locals+1⟩) (f:=b.cur) rfl rfl;have F:=Hs (st:=b) (f:=⟨b.cur.vars++[d],b.cur.cells++[b.heap.length],b.cur.locals+1⟩) (g:=b.cur);have G:=Ir (st:=b);exact ⟨h.1.trans (F.1.trans G.1),h.2.trans (F.2.trans G.2)⟩
def WV {blk V:Rn->Except Int Rn} {s:lB} {d:VD} (hd:d.kind=1\/d.kind=3) (hn:d.name=s) (h:Rv blk V (v++[d])) {M:Nat} {x u:Int} {L:Rn} (hG:Good st) (hv:st.cur.vars=v) (hx:Fp x) (ho:(st.opens d x).1=0)
 (hb:blk ⟨(st.opens d x).2,M⟩ = .ok L) (hc:(L.st.closes s u).1=0) :
 BR s v=none/\Good (L.st.closes s u).2/\(L.st.closes s u).2.base=st.base/\(L.st.closes s u).2.calls=st.calls/\st.heap.length<=(L.st.closes s u).2.heap.length/\L.rem<=M/\(∀U,U≠s->(L.st.closes s u).2.look U=L.st.look U) /\
 ∀(ρ:Nat->nP) (a:Stp),(∀c d,ρ c d->d<st.heap.length)->Sim ρ a (L.st.closes s u).2->(a.opens d u).1=0 /\ ∃a',(∀F,M-L.rem<=F->V ⟨(a.opens d u).2,F⟩ = .ok ⟨a',F-(M-L.rem)⟩)/\(∀U,U≠s->a'.look U=st.look U)/\(a'.closes s x).1=0/\Sim ρ (a'.closes s x).2 st:=by
 obtain ⟨h0,-⟩:=WU ho;rw [KI x h0] at hb;have ad:=hG.plus hd hx h0;have N:=hG.len;obtain ⟨X,b1,c1,l1,m1,k1⟩:=h _ M L ad (by rw [Kd,hv]) hb;have O:L.st.cur=⟨st.cur.vars++[d],st.cur.cells++[st.heap.length],st.cur.locals+1⟩:=(Fd b1 c1).trans Kd;have h1:d.kind=1->(L.st.items st.heap.length).length=1:=fun hk=>by
  obtain ⟨K,m,hw⟩:=X.wf;have hf:=hw.cur;rw [O] at hf;have h2:=hf.kind st.cur.vars.length d st.heap.length AR (by rw [N];simp);rcases hw.cell _ _ h2 with ⟨-,h⟩|⟨h,-⟩|⟨h,-⟩
  . exact h
  . simp only at h;omega
  . simp only at h;omega
 obtain ⟨hH,ae⟩:=Rd O N hn hd h1 hc;have G:(L.st.closes s u).2=L.st.setCur st.cur:=ae;have e0:(L.st.setCur st.cur).base=st.base/\(L.st.setCur st.cur).calls=st.calls:=by
  have e1:=KH (f:=st.cur) b1 c1;have e2:=UZ (b:=st) (d:=d) (xs:=if d.kind=1 then [x] else []);exact ⟨e1.1.trans e2.1,e1.2.trans e2.2⟩
 rw [Rc] at l1;have Y : ∀U,U≠s->(L.st.setCur st.cur).look U=L.st.look U:=fun U Z=>
  (Oc O (Hr (f:=st.cur)) N (by rw [hn];exact Z) (fun c _=>(ET c).symm)).symm
 refine ⟨by rw [<-hv,<-hn];exact h0,?_,by rw [G];exact e0.1,by rw [G];exact e0.2,by rw [G,setCur_heapR];omega,m1,by rw [G];exact Y,fun ρ a hρ hS=>?_⟩
 . obtain ⟨K,m,hw⟩:=X.wf;have af:=hw.closes s u;refine ⟨⟨K,m,af⟩,fun c=>?_,?_,?_,?_,?_,?_⟩
   . rw [G,ET];exact X.rng c
   . rw [G,setCur_tin];exact X.tin
   . rw [G,setCur_tout];exact X.tout
   . rw [G,setCur_tin];exact X.tinR
   . rw [G,setCur_tout];exact X.toutR
   . rw [G,e0.1,e0.2];exact hG.nodup
 . rw [G] at hS;have ag:a.cur.vars=st.cur.vars:=by rw [hS.cur.vars,Hr]
   have ah:BR d.name a.cur.vars=none:=by rw [ag];exact h0
   rw [KI u ah];refine ⟨rfl,?_⟩;have ai:Sim (fun c d'=>ρ c d'\/(c=a.heap.length/\d'=st.heap.length)) (a.plus d (if d.kind=1 then [u] else [])) L.st:=by
    have aa:(L.st.setCur st.cur).cur=st.cur:=Hr;have ht:=Hs (st:=L.st) (f:=st.cur) (g:=L.st.cur);have hs:=Ir (st:=L.st);refine Sim.plus hS (by rw [aa];exact N) ?_ ?_ setCur_heapR.symm setCur_tin.symm setCur_tout.symm (by rw [setCur_heapR];omega) (by rw [ET];exact hH) (fun c d' hr=>by have:=hρ c d' hr;omega)
    . rw [aa,<-O,ht.1,hs.1]
    . rw [aa,<-O,ht.2,hs.2]
   obtain ⟨a',ab,e1⟩:=k1 _ _ (fun c d' hr=>by
    rw [Rc];rcases hr with hr|⟨-,rfl⟩
    . have:=hρ _ _ hr;omega
    . omega) ai
   obtain ⟨cs,c0,q1,q2,q3,q4⟩:=ab.minus hG hρ;have ac:=Sz (x:=x) hd q1 q2 hn q3;refine ⟨a',e1,fun U Z=>?_,by rw [ac],by rw [ac];exact q4⟩;rw [ab.look];refine Oc Kd rfl N (by rw [hn];exact Z) (fun c hc=>?_);rw [F9,As];have:=hG.lt (IC st) hc;omega
def Rv.local_ {blk O:Rn->Except Int Rn} {s:lB} {first L:Nd} (h:Rv blk O (v++[⟨s,1,0⟩])) (w1:first.wf) (hm:BR s v=none->first.ment s=false/\L.ment s=false) :
 Rv (fun r=>(A7 r).bind fun r=>(BH first r).bind fun x=>(CI (·.opens ⟨s,1,0⟩ x) r).bind fun r=>(blk r).bind fun r=>(A7 r).bind fun r=>(BH L r).bind fun x=>CI (·.closes s x) r)
  (fun r=>(A7 r).bind fun r=>(BH L r).bind fun x=>(CI (·.opens ⟨s,1,0⟩ x) r).bind fun r=>(O r).bind fun r=>(A7 r).bind fun r=>(BH first r).bind fun x=>CI (·.closes s x) r) v:=fun st M r' hG hv G=>by
 obtain ⟨q1,h1,G⟩:=A6 G;obtain ⟨hM,rfl⟩:=C4 h1;obtain ⟨x,h2,G⟩:=A6 G;obtain ⟨q3,h3,G⟩:=A6 G;obtain ⟨ho,rfl⟩:=Fl h3;obtain ⟨r1,h4,G⟩:=A6 G;obtain ⟨q5,h5,G⟩:=A6 G;obtain ⟨U,rfl⟩:=C4 h5;obtain ⟨u,h6,G⟩:=A6 G;obtain ⟨hc,rfl⟩:=Fl G;have V:=L7 h2;have hu:=L7 h6;simp only at V hu ho hc h4 hM U ⊢;have X:Fp x:=by
  have:=hG.ev w1;rw [V] at this;exact this
 obtain ⟨n1,n2,n3,n4,n5,n6,n7,n8⟩:=WV (bW rfl) rfl h hG hv X ho h4 hc;obtain ⟨m1,m2⟩:=hm n1;refine ⟨n2,n3,n4,n5,Ab,fun ρ a hρ hS=>?_⟩;obtain ⟨p1,a',p2,p3,p4,p5⟩:=n8 ρ a hρ hS;refine ⟨_,p5,fun F hF=>?_⟩;show (A7 ⟨a,F⟩).bind _=_;rw [Fo a Ab];simp only [cJ];have Y:AT a.look L=(u,0):=by
  rw [hS.look,<-hu];refine IK fun Z N=>n7 Z ?_
  rintro rfl;rw [m2] at N;cases N
 have aa:AT a'.look first=(x,0):=by
  rw [<-V];refine IK fun Z N=>p3 Z ?_
  rintro rfl;rw [m1] at N;cases N
 rw [KG _ Y];simp only;rw [Jn _ p1];simp only;rw [p2 _ Ab];simp only;rw [Fo a' Ab];simp only;rw [KG _ aa];simp only;rw [Jn _ p4];simp only [Except.ok.injEq,Rn.mk.injEq,true_and];omega
def Rv.lstack {blk L:Rn->Except Int Rn} {s:lB} (h:Rv blk L (v++[⟨s,3,0⟩])) :
 Rv (fun r=>(A7 r).bind fun r=>(CI (·.opens ⟨s,3,0⟩ 0) r).bind fun r=>(blk r).bind fun r=>(A7 r).bind (CI (·.closes s 0)))
  (fun r=>(A7 r).bind fun r=>(CI (·.opens ⟨s,3,0⟩ 0) r).bind fun r=>(L r).bind fun r=>(A7 r).bind (CI (·.closes s 0))) v:=fun st M r' X Y G=>by
 obtain ⟨q1,Z,G⟩:=A6 G;obtain ⟨hM,rfl⟩:=C4 Z;obtain ⟨q3,h3,G⟩:=A6 G;obtain ⟨O,rfl⟩:=Fl h3;obtain ⟨r1,U,G⟩:=A6 G;obtain ⟨q5,h5,G⟩:=A6 G;obtain ⟨N,rfl⟩:=C4 h5;obtain ⟨V,rfl⟩:=Fl G;simp only at O V U hM N ⊢;obtain ⟨n1,n2,n3,n4,n5,n6,n7,n8⟩:=WV (bX rfl) rfl h X Y (by simp [Fp]) O U V;refine ⟨n2,n3,n4,n5,Ab,fun ρ a hρ hS=>?_⟩;obtain ⟨p1,a',p2,p3,p4,p5⟩:=n8 ρ a hρ hS;refine ⟨_,p5,fun F hF=>?_⟩;show (A7 ⟨a,F⟩).bind _=_;rw [Fo a Ab];simp only [cJ];rw [Jn _ p1];simp only;rw [p2 _ Ab];simp only;rw [Fo a' Ab];simp only;rw [Jn _ p4];simp only [Except.ok.injEq,Rn.mk.injEq,true_and];omega
def Od (M:FrmS ρ f g) (U:g.vars.length=g.cells.length) : ∀(ps:List VD) (F:List lB),(BS f ps F).1=(BS g ps F).1/\((BS g ps F).1=0->(BS f ps F).2.length=(BS g ps F).2.length /\
 ∀(i c d:Nat),(BS f ps F).2[i]? = some c->(BS g ps F).2[i]? = some d->ρ c d)
 | [],_=>by simp [BS]
 | _::_,[]=>by simp [BS]
 | v::r,s::q=>by
  obtain ⟨V,i2⟩:=Od M U r q;unfold BS;rw [M.vars];cases e:BR s g.vars with
  | none=>simp
  | some j=>
   simp only;by_cases O:(g.vars.getD j ⟨[],0,0⟩).kind≠v.kind\/(g.vars.getD j ⟨[],0,0⟩).len≠v.len
   . simp only [AG O];exact ⟨trivial,fun h=>by cases h⟩
   . simp only [As O];refine ⟨V,fun X=>?_⟩;obtain ⟨i3,i4⟩:=i2 X;refine ⟨by simp [i3],fun i c d G L=>?_⟩;cases i with
     | zero=>
      have Y:=Ef e;have N:j<f.cells.length:=by rw [M.len];omega
      simp only [dF,cE,cB] at G L;rw [bT N] at G;rw [bT (show j<g.cells.length by omega)] at L;simp only [Option.getD_some] at G L;rw [<-G,<-L];exact M.cell j _ _ (bT _) (bT _)
     | succ i=>exact i4 i c d (by simpa using G) (by simpa using L)
def Oe {c:Nat} : ∀ {ps:List VD} {F:List lB},g.vars.length=g.cells.length->c∈(BS g ps F).2 -> ∃s∈F,∃j:Nat,BR s g.vars=some j/\g.cells[j]? = some c
 | [],_,_,h=>by simp [BS] at h
 | _::_,[],_,h=>by simp [BS] at h
 | v::r,s::q,G,h=>by
  unfold BS at h;cases e:BR s g.vars with
  | none=>rw [e] at h;cases h
  | some j=>
   rw [e] at h;simp only at h;split at h
   . cases h
   . rcases dQ.1 h with rfl|h
     . have O:=Ef e;refine ⟨s,AR,j,e,?_⟩;rw [cB,bT (show j<g.cells.length by omega)];rfl
     . obtain ⟨L,M,N⟩:=Oe G h;exact ⟨L,by simp [M],N⟩
def K9 (F:g.cells.Nodup) (G:g.vars.length=g.cells.length) : ∀(ps:List VD) (L:List lB),L.Nodup->(BS g ps L).2.Nodup
 | [],_,_=>by simp [BS]
 | _::_,[],_=>by simp [BS]
 | v::r,s::q,h=>by
  unfold BS;cases e:BR s g.vars with
  | none=>simp
  | some j=>
   simp only;split
   . simp
   . rw [List.nodup_cons] at h;refine List.nodup_cons.2 ⟨fun N=>?_,K9 F G r q h.2⟩;obtain ⟨s',O,j',U,V⟩:=Oe G N;have hj:=Ef e;have X:g.cells[j]? = some (g.cells.getD j 0):=by
      rw [cB,bT (show j<g.cells.length by omega)];rfl
     obtain rfl:=N8 F X V;obtain ⟨x,Y,Z⟩:=Dx e;obtain ⟨y,M,h8⟩:=Dx U;rw [Y] at M;obtain rfl:=cD M;exact h.1 (by rw [<-Z,h8];exact O)
def Of : ∀(l acc:List Nd),Ld acc l=none->(l.map Nd.name).Nodup /\ ∀u∈acc,∀t∈l,u.name≠t.name
 | [],_,_=>⟨AR,fun _ _ _ h=>by cases h⟩
 | t::r,acc,h=>by
  unfold Ld at h;split at h
  . cases h
  . rename_i M;obtain ⟨N,L⟩:=Of r (acc++[t]) h;have O : ∀u∈acc,u.name≠t.name:=fun u G e=>M (List.any_eq_true.2 ⟨u,G,by simp [e]⟩)
    refine ⟨?_,fun u G x F=>?_⟩
    . rw [List.map_cons,List.nodup_cons];refine ⟨fun U=>?_,N⟩;obtain ⟨x,F,e⟩:=List.mem_map.1 U;exact L t AR x F e.symm
    . rcases dQ.1 F with rfl|F
      . exact O u G
      . exact L u (by simp [G]) x F
def Sim.push (h:Sim ρ a b) (L:FrmS ρ f g):Sim ρ { a with calls:=a.calls++[f] } { b with calls:=b.calls++[g] }:=by
 refine ⟨h.base,by simp [h.nc],fun i f' g' F G=>?_,h.tin,h.tout,h.items,h.lt,h.inj⟩;simp only at F G;have M:=h.nc;rcases cO i b.calls.length with N|N
 . rw [cK Ab] at F G;exact h.call i _ _ F G
 . rw [cW Ab] at F G;have O:=(List.getElem?_eq_some_iff.1 F).1;simp only [cF,dD] at O;rw [show i-a.calls.length=0 by omega] at F;rw [show i-b.calls.length=0 by omega] at G;simp only [dF,cE] at F G;subst F G;exact L
def Sim.pop (h:Sim ρ a { b with calls:=b.calls++[g] }):a.calls≠[]/\FrmS ρ a.cur g/\Sim ρ { a with calls:=a.calls.dropLast } b:=by
 have F:=h.nc;simp only [cP,cF,dD] at F;have M:=h.cur;have G:({ b with calls:=b.calls++[g] }:Stp).cur=g:=by unfold Stp.cur;simp
 rw [G] at M;refine ⟨fun e=>by rw [e] at F;simp at F,M,h.base,by simp;omega,fun i f' g' L N=>?_,h.tin,h.tout,h.items,h.lt,h.inj⟩;simp only at L;have O:=(List.getElem?_eq_some_iff.1 N).1;rw [List.getElem?_dropLast,AG Ab] at L;exact h.call i f' g' L (by simp only;rw [cK O];exact N)
def Rv.call {blk X:Rn->Except Int Rn} {ps:List VD} {U:List lB} (h:Rv blk X ps) (hq:U.Nodup) :
 Rv (fun r=>(A7 r).bind fun r=>(CI (·.enters ps U) r).bind fun r=>(blk r).bind fun r=>(A7 r).bind (CI (·.leaves)))
  (fun r=>(A7 r).bind fun r=>(CI (·.enters ps U) r).bind fun r=>(X r).bind fun r=>(A7 r).bind (CI (·.leaves))) v:=fun st M r' V hv G=>by
 obtain ⟨q1,h1,G⟩:=A6 G;obtain ⟨hM,rfl⟩:=C4 h1;obtain ⟨q3,h3,G⟩:=A6 G;obtain ⟨Y,rfl⟩:=Fl h3;obtain ⟨N,h4,G⟩:=A6 G;obtain ⟨q5,h5,G⟩:=A6 G;obtain ⟨af,rfl⟩:=C4 h5;obtain ⟨hc,rfl⟩:=Fl G;simp only at Y hc h4 hM af ⊢;have Z:=V.len;obtain ⟨K,m,hw⟩:=V.wf;unfold gJ at Y h4;split at Y
 . cases Y
 rename_i c1;rw [As c1] at h4;split at Y
 . rename_i c2;exact absurd Y c2
 rename_i c2;rw [As c2] at h4;split at Y
 . cases Y
 rename_i c3;rw [As c3] at h4;have ag:Good { st with calls:=st.calls++[⟨ps,(BS st.cur ps U).2,0⟩] }:=by
  have ah:st.WF K (max m ps.length):=⟨hw.len,hw.base,hw.calls,hw.cell,hw.nc,fun f O=>dV (hw.vb f O) (Nat.le_max_left _ _)⟩;have aa:=ah.enters (ps:=ps) (Nat.le_max_right _ _) U;unfold gJ at aa;rw [As c1,As c2,As c3] at aa;refine ⟨⟨K,_,aa⟩,V.rng,V.tin,V.tout,V.tinR,V.toutR,fun f O=>?_⟩;rcases dQ.1 O with O|O
  . exact V.nodup f (by simp only at O;rw [O];simp)
  . rcases List.mem_append.1 O with O|O
    . exact V.nodup f (by simp [O])
    . rw [List.mem_singleton.1 O];exact K9 V.cur Z ps U hq
 obtain ⟨g1,b1,k1,l1,m1,j1⟩:=h _ _ N ag (by unfold Stp.cur;simp) h4;simp only at b1 k1 l1;have c4 : ¬(N.st.calls=[]\/0<N.st.cur.locals):=fun c4=>by
  unfold gG at hc;rw [AG c4] at hc;cases hc
 have ai:N.st.leaves=(0,{ N.st with calls:=N.st.calls.dropLast }):=by
  unfold gG;rw [As c4]
 rw [ai];simp only;have L:N.st.calls.dropLast=st.calls:=by rw [k1];simp
 refine ⟨?_,b1,L,l1,Ab,fun ρ a hρ hS=>?_⟩
 . obtain ⟨K',m',aj⟩:=g1.wf;have ab:=aj.leaves;unfold gG at ab;rw [As c4] at ab;refine ⟨⟨K',m',ab⟩,g1.rng,g1.tin,g1.tout,g1.tinR,g1.toutR,fun f O=>?_⟩;simp only [b1,L] at O;exact V.nodup f O
 . have ak:({ N.st with calls:=N.st.calls.dropLast }:Stp).cur=st.cur:=Fd b1 L;have ac:=hS.cur;rw [ak] at ac;obtain ⟨s1,s2⟩:=Od ac Z ps U;obtain ⟨s3,s4⟩:=s2 (Decidable.not_not.1 c2);have ad:=hS.nc;simp only [L] at ad;have he:a.enters ps U=(0,{ a with calls:=a.calls++[⟨ps,(BS a.cur ps U).2,0⟩] }):=by
    unfold gJ;rw [As c1,As (by rw [s1];exact c2),As (by rw [ad];exact c3)]
   have ae:=hS.push (f:=⟨ps,(BS a.cur ps U).2,0⟩) (g:=⟨ps,(BS st.cur ps U).2,0⟩) ⟨rfl,rfl,s3,s4⟩;have er:({ ({ N.st with calls:=N.st.calls.dropLast }:Stp) with calls:=({ N.st with calls:=N.st.calls.dropLast }:Stp).calls++[⟨ps,(BS st.cur ps U).2,0⟩] }:Stp)=N.st:=by
    refine Stp.eq_of rfl ?_ rfl rfl rfl (fun _=>rfl);show N.st.calls.dropLast++[_]=N.st.calls;rw [L,k1]
   rw [er] at ae;obtain ⟨a1,al,e1⟩:=j1 ρ _ hρ ae;obtain ⟨t1,t2,t3⟩:=al.pop;have hl:a1.leaves=(0,{ a1 with calls:=a1.calls.dropLast }):=by
    unfold gG;rw [As];rintro (h|h)
    . exact t1 h
    . rw [t2.locals] at h;simp at h
   refine ⟨_,t3,fun F hF=>?_⟩;show (A7 ⟨a,F⟩).bind _=_;rw [Fo a Ab];simp only [cJ];rw [Jn _ (by rw [he]),he];simp only;rw [e1 _ Ab];simp only;rw [Fo a1 Ab];simp only;rw [Jn _ (by rw [hl]),hl];simp only [Except.ok.injEq,Rn.mk.injEq,true_and];omega
end
def rejShape:Shape Int where
 sz:=4
 rep _ _ x cs:= ∃(p:Int) (pa:oA) (pn pc:Nat) (s:lB),cs=[.int .i64 p,.slice pa pn pc,.int .i64 x,str s]
 len h:=by obtain ⟨_,_,_,_,_,rfl⟩:=h;rfl
 one h:=by obtain ⟨_,_,_,_,_,rfl⟩:=h;rfl
 mono h _ _:=h
 lt h:=h
def Cx (l:List Nd):List Int:=(l.map fun m=>(Fc m).2).filter (fun e=>decide (e≠0))
def Re (l:List Nd) (x:Nd):Cx (l++[x])=if (Fc x).2=0 then Cx l else Cx l++[(Fc x).2]:=by
 unfold Cx;rw [List.map_append,List.filter_append];by_cases h:(Fc x).2=0
 . rw [AG h];simp [h]
 . rw [As h];simp [h]
def Ht (l:List Nd):(Cx l).length<=l.length:=by
 unfold Cx;exact dV (List.length_filter_le _ _) AR
mutual
def Is : ∀t:Nd,t.walk.length=t.size
 | .mk k n s l=>by simp only [Nd.walk,fF,cF,La l];omega
def La : ∀l:List Nd,(BX l).length=Aq l
 | []=>rfl
 | t::r=>by simp only [BX,Aq,cP,Is t,La r]
end
def ChkR (xs:List Int) (w:wD):Ending->wD->Prop:=fun e w'=> ∃a c,e = .returned (.slice a xs.length c)/\OwnQ rejShape w' (fun _=>False) w.heap.size 164 (.slice a xs.length c) xs/\Ext w w'/\(xs=[]->a=none/\c=0)
def ChkR.ret {xs:List Int} {w:wD} {e:Ending} {w':wD} (h:ChkR xs w e w') : ∃v,e = .returned v:=by
 obtain ⟨_,_,h,-⟩:=h;exact ⟨_,h⟩
def Tm (p:Int) (t:Nd) (hz:t.size<=1000000) (O : ∀x∈t.walk,x.good/\x.wf/\x.size<=1000000) (S:nP) (a:oA) (c:Nat) (w:wD) (hs:t.sits S w a) :
 Calls prog 70 #[.int .i64 p,t.val a c] w (ChkR (Cx t.walk) w):=by
 have HG:=bU O;clear O;have X:=eU w;refine NU (args:=[_,_]) func70 ntmps70 rfl rfl ?_;refine cS (eB [_] ?_);intro b1 w2 h4 x5 p6 z7;revert hs X;refine eE x5 ?_;intro hs X;refine eB [_,_,_,_] ?_;intro b8 w9 aa av bf bg;revert h4 hs X;refine eE av ?_;intro h4 hs X;refine eK ?_;refine eA [_] ?_;intro al aw af ax bh z22;revert aa h4 hs X;refine eE ax ?_;intro aa h4 hs X;refine eK ?_;refine eQ rfl (Wv _ hz _ _ _ _ Ae) ?_;rintro _ ab ⟨a5,⟨⟨⟩,⟨an,ay⟩⟩⟩;revert af aa h4 hs X;refine eY ay ?_;intro bi af aa h4 hs X;refine cT ?_;refine Av ?_;refine QM rfl rfl rfl A9 an (fun _ _ _ _ h=>YX h) (fun k L=>L.2)
  (fun A xs W=> ∃Y Z,Blk W al [.slice Y (Cx xs).length Z]/\OwnQ rejShape W (fun _=>False) w.heap.size 164 (.slice Y (Cx xs).length Z) (Cx xs)/\(∀g,(cY Y (Cx xs).length Z).ownBlock=some g -> ¬A g/\ab.heap.size<=g)/\Blk W b1 [.int .i64 p]/\Ext w W/\(Cx xs=[]->Y=none/\Z=0))
  (fun _ _ _=>False) ?_ (fun _ _ _ _ _ h=>h.elim) ⟨none,0,af,OwnQ.nil,fun g O=>by simp [eR] at O,h4,X,fun _=>⟨rfl,rfl⟩⟩ ?_ ?_ (fun _ _ _ _ _ h=>h.elim)
 . rintro A A' xs W W' ⟨Y,Z,h1,h2,h3,h4,x,h5⟩ hf hA-az;exact ⟨Y,Z,h1.fr hf (fun e=>by have:=hA _ e;omega),h2.fr hf (fun k L=>⟨id,fun e=>(h3 k e).1 L⟩),fun g O=>⟨fun e=>(h3 g O).1 (az g (h2.lt O) e),(h3 g O).2⟩,h4.fr hf (fun e=>by have:=hA _ e;omega),gE x hf (fun k L=>by have:=hA _ L;omega),h5⟩
 . rintro r A pre x u v W hA ao ⟨Y,Z,V,j2,j3,U,N,j5⟩ ⟨pa,pn,pc,xa,xc,e,sx,a6⟩ ac;simp only [dU,and_true] at e;obtain ⟨rfl,rfl⟩:=e;clear an af aa h4 hs X;have bj:=hA _ ao;obtain ⟨g1,g2,g3⟩:=HG.out x (by obtain ⟨q,hq⟩:=ac;rw [<-hq];simp);have a7:(Cx pre).length<=1000000:=by
    have h1:=Ht pre;have h2:=ac.length_le;rw [Is] at h2;simp only [cP,cF,dD] at h2;omega
   have G : ∀g,(cY Y (Cx pre).length Z).ownBlock=some g -> ¬A g/\ab.heap.size<=g/\g<W.heap.size:=fun g O=>⟨(j3 g O).1,(j3 g O).2,j2.lt O⟩
   have am:=Re pre x;have HR:=bU (WA x g3 g2 g1);have X1:=eU W;clear j3 ac g1 g2 g3;refine F7 (Cm rfl (CG KA) (C1 Pa (Ak (EN (Cm rfl KA (Iv [_,_,_,_] CY rfl rfl ?_))))));intro bk bl a0;refine eI [_,_,_,_] a0 ?_;intro bm F a1 bn bo;revert V j2 U N sx X1;refine eE a1 ?_;intro V j2 U N sx X1;refine Ak ?_;refine NW (Keeps.of_ext X1) fun W2 f2=>?_
   have ap : ∀k,k=ab.heap.size+1 -> ¬False/\(cY Y (Cx pre).length Z).ownBlock≠some k:=fun k e=>⟨id,fun h=>(G k h).1 (e▸ao)⟩
   revert F V;refine eF f2 ?_;intro F V;replace j2:=j2.fr f2 ap;replace U:=U.fr f2 Ab;replace N:=gE N f2 (fun k L=>by omega);replace sx:=sx.fr f2 (fun b hb e=>by omega);have bp:=f2.size;have aq : ∀k,A k->ab.heap.size<=k/\k<W2.heap.size:=fun k L=>by have:=hA k L;omega
   have HA:=bU aq;clear X1 f2 hA ap aq;generalize Fc x=ev at *;obtain ⟨en,ec⟩:=ev;dsimp only at am HR;have HN:=bU am;have X3:=Fr.refl (fun k=>k=al\/(cY Y (Cx pre).length Z).ownBlock=some k) W2;have hK : ∀k,A k\/(aw.heap.size<=k/\k<ab.heap.size) -> ¬(k=al\/(cY Y (Cx pre).length Z).ownBlock=some k):=fun k L h=>by
    rcases h with h|h
    . rcases L with L|L
      . have:=HA.out k L;omega
      . omega
    . rcases L with L|L
      . exact (G k h).1 L
      . have:=G k h;omega
   clear am;by_cases he:ec=0
   . have hN:=HN.out;rw [AG he] at hN;subst he;refine J4 (F7 (Cm rfl (CG (Cj DE)) (Cd [_,_,_,_] Ad rfl rfl rfl F rfl rfl rfl (cC rfl (HR.out _ _ _ _ Ae Ab) ?_))));rintro _ bq ⟨⟨⟩,a2⟩;revert F V j2 U N sx X3;refine eY a2 ?_;intro br F V j2 U N sx X3;refine C1 Mv (C1 Px (C1 Px (C1 Pa (C1 Pa (Ak (EN (F7 (Cm rfl (CG (Cj DE)) (C1 Mv (C1 V2 (Ak ?_)))))))))));refine EN (aA rfl AY (IF (Af ?_)));exact O0 (Keeps.of_fr X3 hK) ⟨Y,Z,by rw [hN];exact V,by rw [hN];exact j2,by rw [hN];exact fun g O=>⟨(G g O).1,(G g O).2.1⟩,U,N,by rw [hN];exact j5⟩
   . have hN:=HN.out;rw [As he] at hN;refine J4 (F7 (Cm rfl (CG (Cj DE)) (Cd [_,_,_,_] Ad rfl rfl rfl F rfl rfl rfl (cC rfl (HR.out _ _ _ _ Ae Ab) ?_))));rintro _ bs ⟨⟨⟩,a3⟩;revert F V j2 U N sx X3;refine eY a3 ?_;intro bt F V j2 U N sx X3;refine C1 Mv (C1 Px (C1 Px (C1 Pa (C1 Pa (Ak (EN (F7 (Cm rfl (CG (Cj DE)) (C1 Mv (C1 V2 (Ak ?_)))))))))));refine EN (ZB rfl Ae (Cm rfl (Cj DE) ?_));refine eK ?_;refine C1 (CA [_,_,_,_] Ad CY rfl rfl rfl rfl) ?_;refine AC (Dn [_,_,_,_] Ad CY rfl rfl rfl rfl rfl rfl rfl rfl rfl) rfl ?_ aFh;rintro _ bu ⟨bv,rfl,ag,bw⟩;have ah:=ag.blk;have a4:=ag.ext;have a8:=ag.pos;have a9:=ag.size;revert F V j2 U N sx X3;refine eE a4 ?_;intro F V j2 U N sx X3;refine Hk (R:=fun _=>False) (sh:=rejShape) (z:=ec) Ad CY rfl rfl rfl rfl A9 rfl rfl rfl Ae (fun _ h=>by exact h) (Blk.row Ae) ⟨_,_,_,_,_,rfl⟩ Ab Ab rfl ?_;rintro ad ae ba ai aj bb M;have bc:=M.size;replace ah:=fB ah M (fun h=>by have:=G _ h;omega);replace F:=fB F M (fun h=>by have:=G _ h;omega);replace V:=fB V M (fun h=>by have:=G _ h;omega);replace U:=fB U M (fun h=>by have:=G _ h;omega);replace N:=gE N M (fun k L=>by have:=G _ L;omega);clear sx;replace X3:=Fr.fr X3 M (fun k L=>bW (bX L));refine eS [_] V ?_;intro bd ar ak be;replace ai:=OwnQ.fr ai ak (fun k L=>⟨id,fun e=>by (obtain rfl:=cD (show some ad=some k from e);rcases aj with h|h;have:=G _ h;omega;omega)⟩);revert ah F U N X3;refine eF ak ?_;intro ah F U N X3;refine Ak (Af ?_)
     refine O0 (Keeps.of_fr X3 hK) ⟨some ⟨ad,0,none⟩,ae,by rw [hN];exact ar,by rw [hN];assumption,fun g O=>?_,U,N,fun e=>by rw [hN] at e;simp at e⟩;obtain rfl:=cD (show some ad=some g from O);rcases aj with h|h
     . exact ⟨(G _ h).1,(G _ h).2.1⟩
     . exact ⟨fun hA=>by have:=HA.out _ hA;omega,Ab⟩
 . rintro A W hA ⟨Y,Z,V,j2,j3,U,N,j5⟩ hm L;refine NX (F8 (Lo (Hn (Mt (An Ad rfl rfl rfl (fun wz hz=>by rw [show wz=W from hz];exact V.cell rfl)) rfl (Mt (I1 rfl) rfl (J6 (F8 (OX (Wo L rfl rfl (fun w2 au=>?_))))))))));exact ⟨Y,Z,rfl,j2.fr au (fun k e=>⟨id,fun h=>(j3 k h).1 (e▸hm)⟩),gE N au (fun k e=>by omega),j5⟩
def Ke {P:Program} {n:Nat} {l:Sl} {tab:Tab} {zt:EV} {ty:TypeId} {w:wD} {x y:Operand} {t e sz1 B B' c d:Nat} {a a':oA} {sE:Sk} {zs:lV} {xs ys:List Int} (T:TabOk P tab) (Z:CN P zt) (ht:Az tab t=some (.slice e,sz1)) (hE:Az tab e=some (sE,4)) (hz:Da zt e=some zs) (hzl:zs.length=4)
 (hby:DM P e=true) (hx:ev l x=some (.slice a xs.length c)) (hy:ev l y=some (.slice a' ys.length d)) (hox:OwnQ rejShape w (fun _=>False) B e (.slice a xs.length c) xs) (hoy:OwnQ rejShape w (fun _=>False) B' e (.slice a' ys.length d) ys) (hxn:xs=[]->a=none/\c=0) (hyn:ys=[]->a'=none/\d=0) (hlen:xs.length+ys.length<=10000000000) (hB:B<=w.heap.size) :
 B5 P n l (.call ⟨.builtin .append,#[x,y],#[t,t]⟩) ty w (Ku fun o w'=> ∃a2 c2,o = .slice a2 (xs++ys).length c2/\OwnQ rejShape w' (fun _=>False) B e (.slice a2 (xs++ys).length c2) (xs++ys)/\Fr (fun k=>(cY a xs.length c).ownBlock=some k) w w'/\(xs++ys=[]->a2=none/\c2=0)):=by
 by_cases b:ys=[]
 . obtain ⟨rfl,rfl⟩:=hyn b;subst b;rw [List.append_nil];obtain ⟨i,hi,hs⟩:=(T _ _ _ hE).info;have hun:=(T _ _ _ ht).under;have key:(Builtin.append_ #[t,t] ty #[.slice a xs.length c,.slice none 0 0]).run P w = .ok (.slice a xs.length c) w:=by
    obtain ⟨css,h1,-⟩:=hox.ex;exact run_append_owned_none (P:=P) w B t ty e i 4 hun hi _ xs.length css.flatten h1
   unfold B5;intro act dst pos after g next Q ha hn _;have e1:(execOp act.eval ⟨dst,.call ⟨.builtin .append,#[x,y],#[t,t]⟩,ty,pos,after,g⟩).run P w = .ok (.value (.slice a xs.length c)) w:=by
    simp only [dD] at hy;simp only [execOp,resolve,invoke,builtin,cU,dC,Result.andThen_ok,List.map_toArray,List.map_cons,List.map_nil,ha.ev hx,ha.ev hy,key]
   unfold eL;rw [e1];exact hn _ _ ⟨a,c,rfl,hox,Fr.refl _ _,hxn⟩
 . obtain ⟨css,h1,h2,h3⟩:=hox.ex;obtain ⟨cys,k1,k2,k3⟩:=hoy.ex;have hpos:0<ys.length:=List.length_pos_iff.2 b;rcases k1.row with ⟨-,h0,-⟩|⟨g,cap,hv,-,-,hr⟩
   . omega
   simp only [dI] at hv;obtain ⟨rfl,-,-⟩:=hv;have hone:cys.flatten.all Value.one=true:=by
    rw [List.all_eq_true];intro u hu;obtain ⟨cs,hcs,hu⟩:=List.mem_flatten.1 hu;obtain ⟨j,hj,rfl⟩:=List.mem_iff_getElem.1 hcs;have:=rejShape.one (k3 j ys[j] cys[j] (bT Ab) (bT hj));exact List.all_eq_true.1 this u hu
   have hd:=Eo (P:=P) (n:=n) (l:=l) (ty:=ty) T Z ht hE hz hzl hby rfl hx hy h1 hr k1.1 hone Ab Ab hB;unfold B5 at hd ⊢;intro act dst pos after gd next Q ha hn f;refine hd act dst pos after gd next Q ha (fun v' w' hG=>?_) (fun w' hG=>hG.elim);obtain ⟨g1,g2,g',cap',rfl,g4⟩:=hG;refine hn _ w' ⟨some ⟨g',0,none⟩,cap',by rw [cP],⟨css++cys,by rw [List.flatten_append,cP];exact g1,by simp [h2,k2],fun j z ds hz hd=>?_⟩,g2,fun e=>by simp [b] at e⟩;by_cases hj:j<xs.length
   . rw [cK hj] at hz;rw [cK Ab] at hd;exact h3 j z ds hz hd
   . rw [cW Ab] at hz;rw [cW Ab,h2] at hd;exact k3 _ z ds hz hd
def Dz (ps:List PD):List Int:=ps.flatMap fun p=>Cx p.body.walk
def PG.errs (g:PG):List Int:=if g.flt=0 then Dz g.procs++Cx g.main.walk else []
def Rf {ps:List PD} {j:Nat} (h:j<ps.length):Dz (ps.take (j+1))=Dz (ps.take j)++Cx (ps[j]).body.walk:=by
 unfold Dz;rw [dG h,List.flatMap_append];simp
def MV (K:Nat) : ∀ps:List PD,(∀p∈ps,p.body.size<=K)->(Dz ps).length<=ps.length*K
 | [],_=>by simp [Dz]
 | p::r,h=>by
  have L:=MV K r (fun q F=>h q (by simp [F]));have G:=Ht p.body.walk;rw [Is] at G;have M:=h p AR;have e:Dz (p::r)=Cx p.body.walk++Dz r:=by simp [Dz]
  rw [e,cP,cF,Nat.add_mul];omega
set_option maxHeartbeats 8000000 in
def WW (g:PG) (ab:g.wf) (aj:g.ok=true) (S:nP) (va:oA) (vc:Nat) (pa:oA) (pc:Nat) (ma:oA) (mc:Nat) (w:wD) (V:g.sits S w va pa ma) (F:PDsC S w g.procs pa) (an:g.vars.length<=vc) :
 Calls prog 40 #[.agg (g.cells va vc pa pc ma mc).toArray] w (ChkR g.errs w):=by
 have HV:=bU (IJ ab aj);have HS:=bU (fun S va vc pa pc ma mc w V hp hv=>MN g ab aj S va vc pa pc ma mc w V hp hv);obtain ⟨o1,o2,-,o4,o5⟩:=Di aj;have F:=F.ltA;have V:=V.ltA;have X:=eU w;by_cases hf:g.flt=0
 . have he:g.errs=Dz g.procs++Cx g.main.walk:=AG hf;rw [he];rw [hf] at HS;have G:=V.main;obtain ⟨b1,-,b3⟩:=body_iff.1 o5;have HM:=bU (Tm (-1) g.main Ab (fun x hx=>by
    obtain ⟨h1,h2,h3⟩:=MA b1 ab.main x hx;exact ⟨h1,h2,Ab⟩))
   refine Ac func40 ntmps40 rfl rfl ?_;refine cS (eB [_,_,_,_,_,_] ?_);intro b1 w2 O x5 p6 z7;revert F V X G;refine eE x5 ?_;intro F V X G;refine eK ?_;refine cC rfl (HV.out _ _ _ _ _ _ _ _ Ae) ?_;rintro _ w9 ⟨⟨⟩,x8⟩;revert O F V X G;refine eY x8 ?_;intro bm O F V X G;refine eK ?_;refine eQ rfl (HS.out _ _ _ _ _ _ _ _ Ae Ae an) ?_;rintro _ bn ⟨bo,⟨bp,⟨⟨⟩,ar⟩⟩⟩;revert O F V X G;refine eY ar ?_;intro bq O F V X G;refine Bh rfl rfl rfl (rfl) (C1 Pz (Bh rfl rfl rfl (rfl) (C1 V5 (C1 (B0 rfl rfl rfl) (cT (Np (Am (Ag (cS (C1 Pa (cT ?_)))))))))));refine Ai (cS (C1 Pf (C1 (Pl O) (C1 Pz (C1 Mv (cT ?_))))));refine Av ?_;refine A1 (ι:=Nat×oA×Nat) (fun y=>[(1,.pointer (some ⟨b1,0,none⟩)),(3,.slice y.2.1 (Dz (g.procs.take y.1)).length y.2.2),(16,.slice pa g.procs.length pc),(17,.int .i64 g.procs.length),(18,.int .i64 y.1)])
    (fun y w'=>y.1<=g.procs.length/\OwnQ rejShape w' (fun _=>False) (w.heap.size+1) 164 (.slice y.2.1 (Dz (g.procs.take y.1)).length y.2.2) (Dz (g.procs.take y.1))/\(Dz (g.procs.take y.1)=[]->y.2.1=none/\y.2.2=0)/\Blk w' b1 (g.cells va vc pa pc ma mc)/\PDsC (· < w.heap.size) w' g.procs pa/\g.main.sits (· < w.heap.size) w' ma/\Ext w w')
    (fun y=>g.procs.length-y.1) (0,none,0) sB ⟨cQ _,OwnQ.nil,fun _=>⟨rfl,rfl⟩,O,F,G,X⟩ ?_
   clear O F G X V;rintro ⟨j,ra,rc⟩ w3 ⟨hj,L,ac,O,F,G,X⟩;simp only at hj L ac O F G X;have N : ∀q,(cY ra (Dz (g.procs.take j)).length rc).ownBlock=some q->w.heap.size+1<=q/\q<w3.heap.size:=fun q hq=>⟨L.ge hq,L.lt hq⟩
   have au:=MV 2000 (g.procs.take j) (fun p hp=>(body_iff.1 (Dj (o4 p (List.mem_of_mem_take hp))).2.2.2).2.2);have av:(g.procs.take j).length*2000<=64*2000:=Nat.mul_le_mul_right _ (by simp;omega);have br:=X.size;have bs:=O.lt;by_cases aa:j<g.procs.length
   . obtain ⟨kb,ko,rfl,kS,ae⟩:=F.get (by intro e;rw [e] at aa;simp at aa);obtain ⟨qa,qc,ba,bc,r0,-,Y,-⟩:=ae j g.procs[j] (bT aa);obtain ⟨d1,-,d3⟩:=body_iff.1 (Dj (o4 _ (cL aa))).2.2.2;have aw:=Rf aa;have ak:=Ht (g.procs[j]).body.walk;rw [Is] at ak;have HC:=bU (Tm j (g.procs[j]).body Ab (fun x hx=>by
      obtain ⟨h1,h2,h3⟩:=MA d1 (ab.procs _ (cL aa)).body x hx;exact ⟨h1,h2,Ab⟩))
     clear ae d1;generalize g.procs[j]=x at *;generalize Cx x.body.walk=ys at *;generalize hE:Dz (g.procs.take j)=E at *
     focus
      refine eK ?_;refine eA [_,_,_,_,_,_] ?_;intro bt bu ax ay bv bw;revert G X O F r0 Y L;refine eE ay ?_;intro G X O F r0 Y L;refine C1 Pa (eS [_,_,_,_,_,_] ax ?_);intro bx Z af a2;revert G X O F r0 Y;refine eF af ?_;intro G X O F r0 Y;have L:=OwnQ.fr L af (fun k hk=>⟨id,fun e=>by have:=N _ e;omega⟩);refine eK ?_;refine eQ rfl (HC.out _ _ _ _ Ae) ?_;rintro _ a3 ⟨a4,⟨a5,⟨⟨⟩,⟨a6,⟨ao,a7⟩⟩⟩⟩⟩;revert Z G X O F r0 Y L;refine eY ao ?_;intro a8 Z G X O F r0 Y L;refine AC (Ke Ad CY rfl rfl rfl rfl A9 rfl rfl Ae Ae ac Ae Ab Ab) rfl ?_ aFh;rintro _ a9 ⟨al,⟨am,⟨rfl,⟨ag,⟨M,ah⟩⟩⟩⟩⟩;have bb:=M.size;have Z:=fB Z M (fun h=>by have:=N _ h;omega);have G:=eW G M (fun b hb h=>by have:=N _ h;omega);have X:=gE X M (fun k hk=>by have:=N _ hk;omega);have O:=fB O M (fun h=>by have:=N _ h;omega);have F:=PDsC.fr F M (fun b hb h=>by have:=N _ h;omega);have Y:=eW Y M (fun b hb h=>by have:=N _ h;omega);clear L M;refine C1 Pa (Ak (Af (Ag (Aj (C1 V7 (C1 Mv (Ak ?_)))))));rotate_left
     rw [<-aw] at ag ah ⊢;exact AI (j+1,al,am) sB ⟨by simp only;omega,ag,ah,O,F,G,X⟩ (by simp only;omega)
   . obtain rfl:j=g.procs.length:=by omega
     rw [dB] at L ac au N;refine CW.sub (m:=[(1,.pointer (some ⟨b1,0,none⟩)),(3,.slice ra (Dz g.procs).length rc),(16,.slice pa g.procs.length pc),(17,.int .i64 g.procs.length),(18,.int .i64 g.procs.length)]) ?_ (AQ rfl (Bx rfl (by simp only [dB]) (AQ rfl (AQ rfl (AQ rfl Cy)))));have ak:=Ht g.main.walk;rw [Is] at ak;rw [dB] at av;generalize Cx g.main.walk=ys at *;generalize hE:Dz g.procs=E at *;rw [hE] at *;refine eK ?_;refine eQ rfl (HM.out _ _ _ _ Ae) ?_;rintro _ bz ⟨b0,⟨b2,⟨⟨⟩,⟨b4,⟨az,b5⟩⟩⟩⟩⟩;revert O F G X L;refine eY az ?_;intro b6 O F G X L;refine AC (Ke Ad CY rfl rfl rfl rfl A9 rfl rfl Ae Ae ac Ae Ab Ab) rfl ?_ aFh;rintro _ bd ⟨be,⟨bf,⟨rfl,⟨ai,⟨U,ap⟩⟩⟩⟩⟩;have bg:=U.size;have O:=fB O U (fun h=>by have:=N _ h;omega);have F:=PDsC.fr F U (fun b hb h=>by have:=N _ h;omega);have G:=eW G U (fun b hb h=>by have:=N _ h;omega);have X:=gE X U (fun k hk=>by have:=N _ hk;omega);clear L U;refine eK ?_;refine xR ?_;exact ⟨_,_,rfl,OwnQ.below ai (fun k hk=>by have:=ai.ge hk;omega),X,ap⟩
 . have he:g.errs=[]:=As hf;rw [he];refine Ac func40 ntmps40 rfl rfl ?_;refine cS (eB [_,_,_,_,_,_] ?_);intro b7 b8 ad a0 b9 ca;revert F V X;refine eE a0 ?_;intro F V X;refine eK ?_;refine cC rfl (HV.out _ _ _ _ _ _ _ _ Ae) ?_;rintro _ cb ⟨⟨⟩,a1⟩;revert ad F V X;refine eY a1 ?_;intro bh ad F V X;refine eK ?_;refine eQ rfl (HS.out _ _ _ _ _ _ _ _ Ae Ae an) ?_;rintro _ bi ⟨bj,⟨bk,⟨⟨⟩,aq⟩⟩⟩;revert ad F V X;refine eY aq ?_;intro bl ad F V X;refine eK ?_;refine xR ?_;all_goals exact ⟨none,0,rfl,OwnQ.nil,X,fun _=>⟨rfl,rfl⟩⟩
def Rg {ps:List PD} {v:List VD} : ∀(N:Nat) (t:Nd),t.size<N->t.isExpr=true->t.flt ps v=0 -> ∀m∈t.walk,2<=m.kind->m.kind<=5->Ep v m.name≠none
 | 0,_,h,_,_,_,_,_,_=>by omega
 | N+1,.mk k n s l,h,U,L,m,G,V,X=>by
  have Y:=GG U;simp only [fS] at Y;rw [Cc Ab Ab Ab Ab,Nat.add_eq_zero_iff] at L;simp only [Nd.walk,dQ] at G;rcases G with rfl|G
  . have F:=MG L.1;simp only [fS,Nd.name] at V X ⊢;intro Z;unfold B7 EC at F;rw [Z] at F;by_cases c2:k=2
    . rw [AG c2] at F;cases F
    by_cases c3:k=3
    . rw [As c2,AG c3] at F;cases F
    . rw [As c2,As c3,AG Ab] at F;cases F
  . obtain ⟨x,M,O⟩:=Io G;simp only [fF] at h;exact Rg N x (by have:=Du M;omega) ((II U).2.1 x M) (EP L.2 x M) m O V X
def IN {ps:List PD} {v:List VD} {t:Nd} {s:lB} (F:t.isExpr=true) (G:t.flt ps v=0) (L:BR s v=none):t.ment s=false:=by
 cases e:t.ment s with
 | false=>rfl
 | true=>
  unfold Nd.ment at e;obtain ⟨m,M,h⟩:=List.any_eq_true.1 e;unfold Nd.isRef at h;simp only [bZ,decide_eq_true_eq] at h;have:=Rg (t.size+1) t Ab F G m M h.1.1 h.1.2;rw [h.2,Jd,L] at this;exact absurd rfl this
section
variable (ps:List PD) (d:Nat) (b:Bool) (n:Int) (s:lB) (l:List Nd)
def WX (r:Rn):Au ps (d+1) b (.mk 52 n s l) r=(BL (if b then Bw l (l.length-1) else Bw l 0) r).bind fun p=>(AD (Au ps d) b (if p.1 then Bw l 1 else Bw l 2) p.2).bind (Bp (if b then Bw l 0 else Bw l (l.length-1)) p.1):=by
 conv=>lhs;unfold Au
 rw [AG rfl]
def SA (r:Rn):Au ps (d+1) b (.mk 53 n s l) r=(Bp (if b then Bw l (l.length-1) else Bw l 0) true r).bind (Cs (AD (Au ps d) b (Bw l 1)) (AD (Au ps d) b (Bw l 2)) (if b then Bw l 0 else Bw l (l.length-1)) (if b then Bw l (l.length-1) else Bw l 0) d):=by
 conv=>lhs;unfold Au
 rw [As AY,AG rfl]
def Rh (r:Rn):Au ps (d+1) b (.mk 54 n s l) r=(A7 r).bind fun r=>(BH (if b then Bw l (l.length-1) else Bw l 0) r).bind fun v=>(CI (·.opens ⟨s,1,0⟩ v) r).bind fun r=>(AD (Au ps d) b (Bw l 1) r).bind fun r=>
 (A7 r).bind fun r=>(BH (if b then Bw l 0 else Bw l (l.length-1)) r).bind fun v=>CI (·.closes s v) r:=by
 conv=>lhs;unfold Au
 rw [As AY,As AY,AG rfl]
def Pd (r:Rn):Au ps (d+1) b (.mk 55 n s l) r=(A7 r).bind fun r=>(CI (·.opens ⟨s,3,0⟩ 0) r).bind fun r=>(AD (Au ps d) b (Bw l 0) r).bind fun r=>(A7 r).bind (CI (·.closes s 0)):=by
 conv=>lhs;unfold Au
 rw [As AY,As AY,As AY,AG rfl]
end
structure Acc (ps:List PD) (v:List VD) (t:Nd):Prop where
 wf:t.wf
 flt:t.flt ps v=0
 rej : ∀m∈t.walk,(Fc m).2=0
def Acc.kid {ps:List PD} {v:List VD} {k n:Int} {s:lB} {l:List Nd} (h:Acc ps v (.mk k n s l)) {x:Nd} (F:x∈l) {G:List VD} (L:x.flt ps G=0):Acc ps G x:=
 ⟨BF (by have:=h.wf;simp only [Nd.wf] at this;exact this.2.2.2.2.2.2) x F,L,fun m M=>h.rej m (Q8 F M)⟩
def Tn {ps:List PD} (aa : ∀p∈ps,p.body.isBlock=true/\Acc ps p.params p.body) : ∀(d:Nat) (b:Bool) (t:Nd) (v:List VD),t.isStmt=true->Acc ps v t->Rv (Au ps d b t) (Au ps d (!b) t) v
 | 0,b,t,v,_,_=>fun st M r' hG hv h=>by
  unfold Au at h;cases h
 | d+1,b,t,v,ht,L=>by
  have V : ∀ {x:Nd} {v:List VD} (b:Bool),x.isBlock=true->Acc ps v x->Rv (AD (Au ps d) b x) (AD (Au ps d) (!b) x) v:=fun {x v} b O L=>by
   obtain ⟨e,U⟩:=Jh O;refine Rv.block fun y N=>Tn aa d b y v (U y N) ?_
   have G:=L.flt;rw [e,Cc AY AY AY AY,Nat.add_eq_zero_iff] at G;rw [e] at L;exact L.kid N (EP G.2 y N)
  have G:=L.flt;have X:=L.rej _ (N7 _);cases BT ht with
  | upd U O N=>exact Rv.basic ps d b ht X Ab v
  | swap O N=>exact Rv.basic ps d b ht X Ab v
  | stack U hn O=>exact Rv.basic ps d b ht X Ab v
  | tape U O=>exact Rv.basic ps d b ht X Ab v
  | call U hn hl hv=>
   rename_i k s l;rw [Nd.flt,AG U,Nat.add_eq_zero_iff] at G;have h1:=MG G.1;unfold B7 Nr at h1;rw [As Ab,As Ab,As Ab,As Ab,AG U] at h1;have ab:(EO (Ld [] l)).2=0:=by
    rw [Fc] at X;rw [As Ab,As Ab,As Ab,As Ab,As Ab,AG Ab] at X;exact X
   have ac:(l.map Nd.name).Nodup:=by
    cases e:Ld [] l with
    | none=>exact (Of l [] e).1
    | some x=>rw [e] at ab;cases ab
   cases hp:Cf ps s with
   | none=>rw [hp] at h1;cases h1
   | some i=>
    have hi:i<ps.length:=by
     unfold Cf at hp;exact (List.findIdx?_eq_some_iff_findIdx_eq.1 hp).1
    have ad:ps.getD ((Cf ps s).getD 0) ⟨[],[],.mk 0 0 [] []⟩=ps[i]:=by
     rw [hp];simp [cB,bT hi]
    obtain ⟨q1,q2⟩:=aa ps[i] (cL hi);have hR:=Rv.call (v:=v) (V (b != decide (k=51)) q1 q2) ac;have F:Au ps (d+1) b (.mk k 0 s l)=_:=funext (E7 ps d b (n:=0) (s:=s) (l:=l) U);have e2:Au ps (d+1) (!b) (.mk k 0 s l)=_:=funext (E7 ps d (!b) (n:=0) (s:=s) (l:=l) U);rw [F,e2,ad,Zo];exact hR
  | branch U O N Y hu=>
   rename_i k x y z u;rw [Cc Ab Ab Ab Ab,Nat.add_eq_zero_iff] at G;have Z:=L.kid (x:=y) AR (EP G.2 y AR);have az:=L.kid (x:=z) AR (EP G.2 z AR);rcases U with rfl|rfl
   . have hg : ∀b p:Bool,Rv (fun r=>AD (Au ps d) b (if p then y else z) r) (fun r=>AD (Au ps d) (!b) (if p then y else z) r) v:=fun b p=>by
      cases p
      . exact V b Y az
      . exact V b N Z
     have F:=fun b=>funext (WX ps d b 0 [] [x,y,z,u])
     cases b with
     | false=>
      rw [F,F];exact Rv.branch (g:=fun p r=>AD (Au ps d) false (if p then y else z) r) (g':=fun p r=>AD (Au ps d) true (if p then y else z) r) x u (hg false)
     | true=>
      rw [F,F];exact Rv.branch (g:=fun p r=>AD (Au ps d) true (if p then y else z) r) (g':=fun p r=>AD (Au ps d) false (if p then y else z) r) u x (hg true)
   . have F:=fun b=>funext (SA ps d b 0 [] [x,y,z,u])
     cases b with
     | false=>
      rw [F,F];exact Rv.loop x u (V false N Z) (V false Y az) d
     | true=>
      rw [F,F];exact Rv.loop u x (V true N Z) (V true Y az) d
  | local_ hn O N Y=>
   rename_i s x y z;rw [Nd.flt,As Ab] at G;simp only [CP,Nat.add_eq_zero_iff] at G;have fx:x.flt ps v=0:=G.2.1;have fy:y.flt ps (v++[⟨s,1,0⟩])=0:=G.2.2.1;have fz:z.flt ps v=0:=G.2.2.2.1;have Z:=L.kid (x:=y) AR fy;have ax:=L.kid (x:=x) AR fx;have az:=L.kid (x:=z) AR fz;have F:=fun b=>funext (Rh ps d b 0 s [x,y,z])
   cases b with
   | false=>
    rw [F,F];exact Rv.local_ (V false N Z) ax.wf fun h=>⟨IN O fx h,IN Y fz h⟩
   | true=>
    rw [F,F];exact Rv.local_ (V true N Z) az.wf fun h=>⟨IN Y fz h,IN O fx h⟩
  | lstack hn O=>
   rename_i s x;rw [Nd.flt,As Ab] at G;simp only [CP,Nat.add_eq_zero_iff] at G;have fx:x.flt ps (v++[⟨s,3,0⟩])=0:=G.2.1;have ax:=L.kid (x:=x) AR fx;have F:=fun b=>funext (Pd ps d b 0 s [x])
   rw [F,F];exact Rv.lstack (V b O ax)
def MX {l:List Nd} (h:Cx l=[]) : ∀m∈l,(Fc m).2=0:=fun m F=>by
 unfold Cx at h;have:=List.filter_eq_nil_iff.1 h (Fc m).2 (List.mem_map.2 ⟨m,F,rfl⟩);simpa using this
def WY {g:PG} (h:g.wf) (L:g.ok=true) (M:g.flt=0) (F:g.errs=[]):(∀p∈g.procs,p.body.isBlock=true/\Acc g.procs p.params p.body)/\g.main.isBlock=true/\Acc g.procs g.vars g.main:=by
 unfold PG.errs at F;rw [AG M,List.append_eq_nil_iff] at F;unfold PG.flt at M;have N:=Nat.add_eq_zero_iff.1 M;have O:=(Nat.add_eq_zero_iff.1 N.1).2;obtain ⟨-,-,-,U,V⟩:=Di L;refine ⟨fun p G=>⟨(body_iff.1 (Dj (U p G)).2.2.2).1,(h.procs p G).body,Jl O p G,MX ?_⟩,(body_iff.1 V).1,h.main,N.2,MX F.2⟩;have:=F.1;unfold Dz at this;exact List.flatMap_eq_nil_iff.1 this p G
def YL {g:PG} (h:g.wf) (F:g.ok=true) (N:g.flt=0) (O:g.errs=[]) (d:Nat) (b:Bool):Rv (AD (Au g.procs d) b g.main) (AD (Au g.procs d) (!b) g.main) g.vars:=by
 obtain ⟨U,V,G⟩:=WY h F N O;obtain ⟨e,X⟩:=Jh V;refine Rv.block fun y L=>Tn U d b y g.vars (X y L) ?_
 have M:=G.flt;rw [e,Cc AY AY AY AY,Nat.add_eq_zero_iff] at M;rw [e] at G;exact G.kid L (EP M.2 y L)
structure SV.rng (s:SV):Prop where
 cells : ∀xs∈s.cells,RngL xs
 tin:RngL s.tin
 tout:RngL s.tout
def MY {vs:List VD} {s:SV} (h:s.cells.length=vs.length):Dl vs s vs.length=⟨s.cells,⟨vs,List.range vs.length,0⟩,[],s.tin,s.tout⟩:=by
 unfold Dl;rw [List.take_of_length_le Ab,dB]
def U0 {vs:List VD} {s:SV} (h:FitsP vs s) (F:s.rng):Good (Dl vs s vs.length):=by
 have G:=Ti h;obtain ⟨V,M,N,O,X⟩:=h;rw [MY M] at G ⊢;refine ⟨⟨_,_,G⟩,fun c=>?_,N,O,F.tin,F.tout,fun f L=>?_⟩
 . unfold fZ;rw [cB];cases e:s.cells[c]? with
   | none=>intro x U;cases U
   | some xs=>exact F.cells xs (dL e)
 . simp only [List.mem_singleton] at L;rw [L];exact List.nodup_range
def ResV.eq {s:SV} {f:Nat} {r:Rn}:QZ s f (.ok r)=⟨r.st.sv,(f:Int)-r.rem,0⟩:=rfl
def Ri {g:PG} (ac:g.wf) (ad:g.ok=true) (h0:g.flt=0) (he:g.errs=[]) {s:SV} (hf:FitsP g.vars s) (N:s.rng) {d F:Nat} {b:Bool} {r:Rn} (h:AD (Au g.procs d) b g.main ⟨Dl g.vars s g.vars.length,F⟩ = .ok r) :
 FitsP g.vars r.st.sv/\r.st.sv.rng/\r.rem<=F /\ ∃r2,AD (Au g.procs d) (!b) g.main ⟨Dl g.vars r.st.sv g.vars.length,F⟩ = .ok r2/\r2.rem=r.rem/\r2.st.sv=s:=by
 have hG:=U0 hf N;obtain ⟨hv,h3,h4,h5,h6⟩:=hf;rw [MY h3] at h hG;obtain ⟨X,b1,c1,l1,m1,k1⟩:=YL ac ad h0 he d b _ F r hG rfl h;simp only at b1 c1 l1;have L:r.st.sv.cells.length=g.vars.length:=by
  unfold Stp.sv;rw [b1];simp
 have G : ∀i,i<g.vars.length->r.st.sv.cells[i]? = some (r.st.items i):=fun i M=>by
  unfold Stp.sv;rw [b1];simp [M]
 have aa:FitsP g.vars r.st.sv:=by
  refine ⟨hv,L,X.tin,X.tout,fun i v xs h7 Y=>?_⟩;have M:=(List.getElem?_eq_some_iff.1 h7).1;rw [G i M] at Y;obtain rfl:=cD Y;obtain ⟨K,m,hw⟩:=X.wf;have Z:=hw.base;rw [b1] at Z;have hk:=Z.kind i v i h7 (by simp [M]);have ae:=hv.2 v (dL h7);unfold O1 at ae;unfold O3 KB;rcases hw.cell _ _ hk with ⟨q1,q2⟩|⟨q1,q2,-⟩|⟨q1,q2⟩<;>simp only at q1 q2
  . rw [As Ab,AG q1];omega
  . rw [As Ab,As Ab];exact q2
  . rw [AG q1];exact q2
 have ab:r.st.sv.rng:=⟨fun xs hx=>by
  obtain ⟨i,M,rfl⟩:=List.mem_iff_getElem.1 hx;rw [L] at M;have:=G i M;rw [bT Ab] at this;rw [cD this];exact X.rng i,X.tinR,X.toutR⟩
 refine ⟨aa,ab,m1,?_⟩;have hS:Sim (fun c d=>c=d/\d<g.vars.length) (Dl g.vars r.st.sv g.vars.length) r.st:=by
  rw [MY L];refine ⟨?_,by rw [c1],fun i f g V _=>by simp at V,rfl,rfl,fun c d N=>?_,fun c d N=>?_,fun c d c' d' V h2=>by rw [V.1,h2.1]⟩
  . rw [b1];refine ⟨rfl,rfl,rfl,fun i c d V h2=>?_⟩;simp only at V h2;rw [V] at h2;obtain rfl:=cD h2;have:=dL V;exact ⟨rfl,List.mem_range.1 this⟩
  . obtain ⟨rfl,Y⟩:=N;unfold fZ;simp only;rw [cB,G c Y];rfl
  . obtain ⟨rfl,Y⟩:=N;simp only;rw [L];omega
 obtain ⟨a,O,e⟩:=k1 _ _ (fun c d N=>by simp only;rw [h3];exact N.2) hS;refine ⟨_,e F Ab,by simp only;omega,?_⟩;have Z:=O.base;have U:=Z.locals;have hl:=Z.len;simp only at U hl;simp only [List.length_range] at hl;unfold Stp.sv;obtain ⟨cells,tin,tout⟩:=s;simp only at h3;congr 1
 . rw [U,Nat.sub_zero,dB];refine List.ext_getElem (by simp [hl,h3]) fun i Y h9=>?_
   rw [List.getElem_map];have M:i<g.vars.length:=by rw [h3] at h9;exact h9
   have N:=Z.cell i a.base.cells[i] i (bT (by rw [hl];exact M)) (by simp [M]);rw [O.items _ _ N];unfold fZ;simp [cB,bT h9]
 . exact O.tin
 . exact O.tout
def PG.acc (g:PG):Prop:=g.ok=true/\g.flt=0/\g.errs=[]
def aJ (g:PG) (L:g.wf) (S:nP) (va:oA) (vc:Nat) (U:oA) (pc:Nat) (ma:oA) (mc:Nat) (w:wD) (G:g.sits S w va U ma) (F:PDsC S w g.procs U) (V:g.vars.length<=vc) :
 Calls prog 16 #[.agg (g.cells va vc U pc ma mc).toArray] w fun e w'=> ∃q,e = .returned (.bool q)/\(q=true↔g.acc)/\Ext w w':=by
 have X:=eU w;have G:=G.ltA;have F:=F.ltA;cases hok:g.ok
 . have Y:=bU (IJ L hok);have hn : ¬g.acc:=fun h=>by rw [h.1] at hok;cases hok
   clear L hok F;refine Ac func16 ntmps16 rfl rfl ?_;refine cS (eB [_,_,_,_,_,_] ?_);intro b1 w2 h4 x5 p6 z7;revert X G;refine eE x5 ?_;intro X G;refine eK ?_;refine cC rfl (Y.out _ _ _ _ _ _ _ _ Ae) ?_;rintro _ w9 ⟨⟨⟩,x8⟩;revert h4 X G;refine eY x8 ?_;intro bf h4 X G;refine eK ?_;refine xR ?_;exact ⟨_,rfl,⟨(fun h=>nomatch h),fun h=>absurd h hn⟩,X⟩
 have Y:=bU (IJ L hok);have HC:=bU (fun w1 h1 h2=>MN g L hok (· < w.heap.size) va vc U pc ma mc w1 h1 h2 V);have HE:=bU (fun w1 h1 h2=>WW g L hok (· < w.heap.size) va vc U pc ma mc w1 h1 h2 V);by_cases Z:g.flt=0
 . rw [Z] at HC;have hq:g.acc↔g.errs.length=0:=⟨fun h=>by rw [h.2.2];rfl,fun h=>⟨hok,Z,List.eq_nil_of_length_eq_zero h⟩⟩;rw [hq];generalize g.errs=xs at *;clear L hok Z hq;by_cases hx:xs.length=0
   . refine Ac func16 ntmps16 rfl rfl ?_;refine cS (eB [_,_,_,_,_,_] ?_);intro bg bh M af bi bj;revert X G F;refine eE af ?_;intro X G F;refine eK ?_;refine cC rfl (Y.out _ _ _ _ _ _ _ _ Ae) ?_;rintro _ bk ⟨⟨⟩,ag⟩;revert M X G F;refine eY ag ?_;intro al M X G F;refine eK ?_;refine eQ rfl (HC.out _ Ae Ae) ?_;rintro _ am ⟨an,⟨ao,⟨⟨⟩,aa⟩⟩⟩;revert M X G F;refine eY aa ?_;intro ap M X G F;refine eK ?_;refine eQ rfl (HE.out _ Ae Ae) ?_;rintro _ aq ⟨ar,⟨au,⟨⟨⟩,⟨av,⟨ab,aw⟩⟩⟩⟩⟩;revert M X G F;refine eY ab ?_;intro ax M X G F;refine eK ?_;refine xR ?_;exact ⟨_,rfl,by simp [hx],X⟩
   . refine Ac func16 ntmps16 rfl rfl ?_;refine cS (eB [_,_,_,_,_,_] ?_);intro bl bm N ah bn bo;revert X G F;refine eE ah ?_;intro X G F;refine eK ?_;refine cC rfl (Y.out _ _ _ _ _ _ _ _ Ae) ?_;rintro _ bp ⟨⟨⟩,ai⟩;revert N X G F;refine eY ai ?_;intro ay N X G F;refine eK ?_;refine eQ rfl (HC.out _ Ae Ae) ?_;rintro _ az ⟨a0,⟨a1,⟨⟨⟩,ac⟩⟩⟩;revert N X G F;refine eY ac ?_;intro a2 N X G F;refine eK ?_;refine eQ rfl (HE.out _ Ae Ae) ?_;rintro _ a3 ⟨a4,⟨a5,⟨⟨⟩,⟨a6,⟨ad,a7⟩⟩⟩⟩⟩;revert N X G F;refine eY ad ?_;intro a8 N X G F;refine eK ?_;refine xR ?_;exact ⟨_,rfl,by simp [hx],X⟩
 . have hn : ¬g.acc:=fun h=>Z h.2.1
   have a9:0<g.flt:=Nat.pos_of_ne_zero Z;generalize g.flt=nf at *;clear L hok;refine Ac func16 ntmps16 rfl rfl ?_;refine cS (eB [_,_,_,_,_,_] ?_);intro bq br O aj bs bt;revert X G F;refine eE aj ?_;intro X G F;refine eK ?_;refine cC rfl (Y.out _ _ _ _ _ _ _ _ Ae) ?_;rintro _ bu ⟨⟨⟩,ak⟩;revert O X G F;refine eY ak ?_;intro ba O X G F;refine eK ?_;refine eQ rfl (HC.out _ Ae Ae) ?_;rintro _ bb ⟨bc,⟨bd,⟨⟨⟩,ae⟩⟩⟩;revert O X G F;refine eY ae ?_;intro be O X G F;refine eK ?_;refine xR ?_;exact ⟨_,rfl,⟨(fun h=>nomatch h),fun h=>absurd h hn⟩,X⟩
def Kf (g:PG) (ac:g.wf) (s:SV) (hr:s.rng) (S:nP) (va:oA) (vc:Nat) (pa:oA) (pc:Nat) (ma:oA) (mc:Nat) (ca ta oa:oA) (cc tc oc:Nat) (w:wD) (G:g.sits S w va pa ma) (F:PDsC S w g.procs pa) (ax:g.vars.length<=vc) (L:s.sits S w ca ta oa) (M:Syms w) (N:Errs w) :
 Calls prog 5 #[.agg (g.cells va vc pa pc ma mc).toArray,.agg (s.row ca cc ta tc oa oc).toArray] w fun e w'=>e = .returned (.bool true)/\Ext w w':=by
 have X:=eU w;have G:=G.ltA;have F:=F.ltA;have L:=L.ltA;have ay:=bU (fun w1 h1 h2=>UT ac s (· < w.heap.size) va vc pa pc ma mc ca ta oa cc tc oc w1 h1 h2);by_cases a9:40<s.cells.length
 . have HG:Hid (∀w1,g.sits (· < w.heap.size) w1 va pa ma->s.sits (· < w.heap.size) w1 ca ta oa->Calls prog 7 #[.agg (g.cells va vc pa pc ma mc).toArray,.agg (s.row ca cc ta tc oa oc).toArray] w1 fun e w'=>e = .returned (.int .i64 1)/\Ext w1 w'):=bU fun w1 h1 h2=>(ay.out w1 h1 h2).mono fun e w' ⟨q,a1,a2,a3⟩=>⟨by rw [a1,a2 a9],a3⟩
   clear ay ac;refine Ac func5 ntmps5 rfl rfl ?_;refine cS (eB [_,_,_,_,_,_] ?_);intro b1 w2 h4 x5 p6 z7;revert M N X G F L;refine eE x5 ?_;intro M N X G F L;refine eB [_,_,_] ?_;intro b8 w9 az ci fy fz;revert h4 M N X G F L;refine eE ci ?_;intro h4 M N X G F L;refine eK ?_;refine cC rfl (GR _ Ae Ae) ?_;rintro _ f0 ⟨⟨⟩,cj⟩;revert az h4 M N X G F L;refine eY cj ?_;intro f1 az h4 M N X G F L;refine eK ?_;refine cC rfl (HG.out _ Ae Ae) ?_;rintro _ f3 ⟨⟨⟩,ck⟩;revert az h4 M N X G F L;refine eY ck ?_;intro z20 az h4 M N X G F L;refine eK ?_;refine xR ?_;exact ⟨rfl,X⟩
 have HG:Hid (∀w1,g.sits (· < w.heap.size) w1 va pa ma->s.sits (· < w.heap.size) w1 ca ta oa->Calls prog 7 #[.agg (g.cells va vc pa pc ma mc).toArray,.agg (s.row ca cc ta tc oa oc).toArray] w1 fun e w'=> ∃q:Int,e = .returned (.int .i64 q)/\Ext w1 w'):=bU fun w1 h1 h2=>(ay.out w1 h1 h2).mono fun e w' ⟨q,a1,a2,a3⟩=>⟨q,a1,a3⟩
 clear ay;have a0:=bU (fun w1 h1 h2=>aJ g ac (· < w.heap.size) va vc pa pc ma mc w1 h1 h2 ax);by_cases ak : ¬g.acc
 . have HO:Hid (∀w1,g.sits (· < w.heap.size) w1 va pa ma->PDsC (· < w.heap.size) w1 g.procs pa->Calls prog 16 #[.agg (g.cells va vc pa pc ma mc).toArray] w1 fun e w'=>e = .returned (.bool false)/\Ext w1 w'):=bU fun w1 h1 h2=>(a0.out w1 h1 h2).mono fun e w' ⟨q,a1,a2,a3⟩=>⟨by rw [a1,show q=false by cases q with|false=>rfl|true=>exact absurd (a2.1 rfl) ak],a3⟩
   clear a0 ac;refine Ac func5 ntmps5 rfl rfl ?_
   focus
    refine cS (eB [_,_,_,_,_,_] ?_);intro f4 f5 al cl f6 f7;revert M N X G F L;refine eE cl ?_;intro M N X G F L;refine eB [_,_,_] ?_;intro f8 f9 af bb c9 da;revert al M N X G F L;refine eE bb ?_;intro al M N X G F L;refine eK ?_;refine cC rfl (GR _ Ae Ae) ?_;rintro _ db ⟨⟨⟩,bc⟩;revert af al M N X G F L;refine eY bc ?_;intro dc af al M N X G F L;refine eK ?_;refine AC (AU A9 rfl (HG.out _ Ae Ae) (fun _ _ ⟨_,h⟩=>⟨_,h.1⟩)) rfl ?_ aFh;rintro _ dd ⟨de,⟨⟨⟩,bd⟩⟩;revert af al M N X G F L;refine eY bd ?_;intro df af al M N X G F L;refine eK ?_;refine C6 rfl rfl rfl (fun be=>?_) (fun be=>?_);refine eK ?_;refine xR ?_;rotate_left;refine eK ?_;refine cC rfl (HO.out _ Ae Ae) ?_;rintro _ dg ⟨⟨⟩,bf⟩;revert af al M N X G F L;refine eY bf ?_;intro dh af al M N X G F L;refine eK ?_;refine xR ?_;rotate_left
   . exact ⟨rfl,X⟩
   . exact ⟨rfl,X⟩
 have ak:=Classical.not_not.1 ak;have HO:Hid (∀w1,g.sits (· < w.heap.size) w1 va pa ma->PDsC (· < w.heap.size) w1 g.procs pa->Calls prog 16 #[.agg (g.cells va vc pa pc ma mc).toArray] w1 fun e w'=>e = .returned (.bool true)/\Ext w1 w'):=bU fun w1 h1 h2=>(a0.out w1 h1 h2).mono fun e w' ⟨q,a1,a2,a3⟩=>⟨by rw [a1,a2.2 ak],a3⟩
 clear a0;obtain ⟨ad,h0,ar⟩:=ak;have a4:=bU (fun w1 (h1:g.sits (· < w.heap.size) w1 va pa ma) h2=>Ws g.vars (by have:=(Di ad).1;omega) s (· < w.heap.size) va ca ta oa vc cc tc oc w1 Ab h1.vars h2);by_cases hf : ¬FitsP g.vars s
 . have HF:Hid (∀w1,g.sits (· < w.heap.size) w1 va pa ma->s.sits (· < w.heap.size) w1 ca ta oa->Calls prog 10 #[.slice va g.vars.length vc,.agg (s.row ca cc ta tc oa oc).toArray] w1 fun e w'=>e = .returned (.bool false)/\Ext w1 w'):=bU fun w1 h1 h2=>(a4.out w1 h1 h2).mono fun e w' ⟨q,a1,a2,a3⟩=>⟨by rw [a1,show q=false by cases q with|false=>rfl|true=>exact absurd (a2.1 rfl) hf],a3⟩
   clear a4 ac ad;refine Ac func5 ntmps5 rfl rfl ?_
   focus
    refine cS (eB [_,_,_,_,_,_] ?_);intro ga gb ae cm gc gd;revert M N X G F L;refine eE cm ?_;intro M N X G F L;refine eB [_,_,_] ?_;intro gf gg ab bg di dk;revert ae M N X G F L;refine eE bg ?_;intro ae M N X G F L;refine eK ?_;refine cC rfl (GR _ Ae Ae) ?_;rintro _ dl ⟨⟨⟩,bh⟩;revert ab ae M N X G F L;refine eY bh ?_;intro dm ab ae M N X G F L;refine eK ?_;refine AC (AU A9 rfl (HG.out _ Ae Ae) (fun _ _ ⟨_,h⟩=>⟨_,h.1⟩)) rfl ?_ aFh;rintro _ dn ⟨dp,⟨⟨⟩,bi⟩⟩;revert ab ae M N X G F L;refine eY bi ?_;intro dq ab ae M N X G F L;refine eK ?_;refine C6 rfl rfl rfl (fun bj=>?_) (fun bj=>?_);refine eK ?_;refine xR ?_;rotate_left;refine eK ?_;refine cC rfl (HO.out _ Ae Ae) ?_;rintro _ dr ⟨⟨⟩,bk⟩;revert ab ae M N X G F L;refine eY bk ?_;intro ds ab ae M N X G F L;refine eK ?_;refine cC rfl (HF.out _ Ae Ae) ?_;rintro _ dt ⟨⟨⟩,bl⟩;revert ab ae M N X G F L;refine eY bl ?_;intro du ab ae M N X G F L;refine eK ?_;refine xR ?_;rotate_left
   . exact ⟨rfl,X⟩
   . exact ⟨rfl,X⟩
 have hf:=Classical.not_not.1 hf;have HF:Hid (∀w1,g.sits (· < w.heap.size) w1 va pa ma->s.sits (· < w.heap.size) w1 ca ta oa->Calls prog 10 #[.slice va g.vars.length vc,.agg (s.row ca cc ta tc oa oc).toArray] w1 fun e w'=>e = .returned (.bool true)/\Ext w1 w'):=bU fun w1 h1 h2=>(a4.out w1 h1 h2).mono fun e w' ⟨q,a1,a2,a3⟩=>⟨by rw [a1,a2.2 hf],a3⟩
 clear a4;obtain ⟨d,hd⟩:=Pb g.procs false g.main ⟨Dl g.vars s g.vars.length,2000⟩;have HW:=bU (fun w1 h1 h2 h3=>N6 g ac ad h0 s hf 2000 AY d hd (· < w.heap.size) va vc pa pc ma mc ca ta oa cc tc oc w1 h1 h2 ax h3);have a5:=MF (O9 g.procs d) false g.main ⟨Dl g.vars s g.vars.length,2000⟩;cases hrun:AD (Au g.procs d) false g.main ⟨Dl g.vars s g.vars.length,2000⟩ with
 | error er=>
  rw [hrun] at HW a5;have cn:er≠0:=fun e=>a5 (by rw [e])
  generalize a6:QZ s 2000 (.error er)=co at *;obtain ⟨⟨l1,i1,o1⟩,n1,r1⟩:=co;have bm:r1=er:=by
   have:=congrArg ResV.err a6;exact this.symm
  rw [<-bm] at cn;clear hrun hd ac ad h0 hf a9 ar a5 hr a6 bm;refine Ac func5 ntmps5 rfl rfl ?_
  focus
   refine cS (eB [_,_,_,_,_,_] ?_);intro gh gi aa cp gj gk;revert M N X G F L;refine eE cp ?_;intro M N X G F L;refine eB [_,_,_] ?_;intro gl gm V bn dv dw;revert aa M N X G F L;refine eE bn ?_;intro aa M N X G F L;refine eK ?_;refine cC rfl (GR _ Ae Ae) ?_;rintro _ dx ⟨⟨⟩,bo⟩;revert V aa M N X G F L;refine eY bo ?_;intro dy V aa M N X G F L;refine eK ?_;refine AC (AU A9 rfl (HG.out _ Ae Ae) (fun _ _ ⟨_,h⟩=>⟨_,h.1⟩)) rfl ?_ aFh;rintro _ dz ⟨d0,⟨⟨⟩,bp⟩⟩;revert V aa M N X G F L;refine eY bp ?_;intro d1 V aa M N X G F L;refine eK ?_;refine C6 rfl rfl rfl (fun bq=>?_) (fun bq=>?_);refine eK ?_;refine xR ?_;rotate_left;refine eK ?_;refine cC rfl (HO.out _ Ae Ae) ?_;rintro _ d2 ⟨⟨⟩,br⟩;revert V aa M N X G F L;refine eY br ?_;intro d3 V aa M N X G F L;refine eK ?_;refine cC rfl (HF.out _ Ae Ae) ?_;rintro _ d4 ⟨⟨⟩,bs⟩;revert V aa M N X G F L;refine eY bs ?_;intro d5 V aa M N X G F L;refine eK ?_;refine eQ rfl (HW.out _ Ae Ae Ae) ?_;rintro _ d6 ⟨d7,⟨d8,⟨cq,⟨cr,⟨ct,⟨cu,⟨⟨⟩,⟨a7,⟨d9,bt⟩⟩⟩⟩⟩⟩⟩⟩⟩;revert V aa M N X G F L;refine eY bt ?_;intro ea V aa M N X G F L;refine xA [_,_,_,_,_] ?_;intro eb ec ag;refine Dd [_,_,_,_,_] Ad rfl rfl rfl rfl rfl rfl ag rfl ?_;intro ed ag;have bu:=ag.blk;dsimp only at bu;have bv:=ag.ext;have ee:=ag.pos;have ef:=ag.size;revert a7 V aa M N X G F L;refine eE bv ?_;intro a7 V aa M N X G F L;refine eK ?_;refine xR ?_;rotate_left
  . exact ⟨rfl,X⟩
  . exact ⟨rfl,X⟩
 | ok r=>
  rw [hrun] at HW;obtain ⟨f2,-,eg,r2,au,q1,q2⟩:=Ri ac ad h0 ar hf hr hrun;have bw:=fun p hp=>(Dj ((Di ad).2.2.2.1 p hp)).2.2.2
  have HP:=bU (QY ac ad);have bx:=Uw (f:=id) false ac ad (fun p hp=>(ac.procs p hp).body);have bz:=Uv (f:=id) false ad bw;have b0:(g.inv id false).flt=0:=by rw [PG.inv_id,WB false (bX (JV ad))];exact h0
  have ao:AD (Au (g.inv id false).procs d) false (g.inv id false).main ⟨Dl (g.inv id false).vars r.st.sv (g.inv id false).vars.length,2000⟩ = .ok r2:=(WO ad d false _).trans au;have ba:=bU (fun S S' va vc pa pc ma mc ca ta oa cc tc oc w1 (h1:(g.inv id false).sits S w1 va pa ma) (h2:PDsC S w1 (g.inv id false).procs pa) ax (h3:r.st.sv.sits S' w1 ca ta oa)=>N6 (g.inv id false) bx bz b0 r.st.sv f2 2000 AY d (by rw [ao];simp) (fun _=>True) va vc pa pc ma mc ca ta oa cc tc oc w1 h1.tt (h2.wide fun _ _=>trivial) ax (h3.wide fun _ _=>trivial));rw [ao] at ba;have av:QZ r.st.sv 2000 (.ok r2)=⟨s,(2000:Nat)-r.rem,0⟩:=by rw [ResV.eq,q1,q2]
  rw [av] at ba;rw [ResV.eq] at HW;have HE:=bU (fun cv S S' a ta oa a' cw cx c tc oc c' cy cz w1 h1 h2=>UF s cv S S' a ta oa a' cw cx c tc oc c' cy cz w1 h1 h2);have eu:(g.inv id false).vars.length=g.vars.length:=rfl;clear hrun au ao bw bx bz b0 hd ac ad h0 hf a9 ar a5 hr q1 q2 av f2;generalize g.inv id false=u at *;generalize r.st.sv=sv at *;generalize ((2000:Nat):Int)-(r.rem:Int)=nn at *;obtain ⟨l0,i0,o0⟩:=s;obtain ⟨l1,i1,o1⟩:=sv;refine Ac func5 ntmps5 rfl rfl ?_
  focus
   refine cS (eB [_,_,_,_,_,_] ?_);intro gn go U c0 gp gq;revert M N X G F L;refine eE c0 ?_;intro M N X G F L;refine JA [_,_,_] rfl rfl rfl ?_;intro gr gs ap;have O:=ap.blk;dsimp only at O;have b2:=ap.ext;have eh:=ap.pos;have ei:=ap.size;revert U M N X G F L;refine eE b2 ?_;intro U M N X G F L;refine eK ?_;refine cC rfl (GR _ Ae Ae) ?_;rintro _ ej ⟨⟨⟩,b3⟩;revert O U M N X G F L;refine eY b3 ?_;intro ek O U M N X G F L;refine eK ?_;refine AC (AU A9 rfl (HG.out _ Ae Ae) (fun _ _ ⟨_,h⟩=>⟨_,h.1⟩)) rfl ?_ aFh;rintro _ el ⟨em,⟨⟨⟩,b4⟩⟩;revert O U M N X G F L;refine eY b4 ?_;intro en O U M N X G F L;refine eK ?_;refine C6 rfl rfl rfl (fun b5=>?_) (fun b5=>?_);refine eK ?_;refine xR ?_;rotate_left;refine eK ?_;refine cC rfl (HO.out _ Ae Ae) ?_;rintro _ eo ⟨⟨⟩,b6⟩;revert O U M N X G F L;refine eY b6 ?_;intro ep O U M N X G F L;refine eK ?_;refine cC rfl (HF.out _ Ae Ae) ?_;rintro _ es ⟨⟨⟩,a8⟩;have et:=a8.size;revert O U M N X G F L;refine eE a8 ?_;intro O U M N X G F L;refine eK ?_;refine eQ rfl (HW.out _ Ae Ae Ae) ?_;rintro _ ew ⟨ex,⟨ey,⟨c1,⟨c2,⟨c3,⟨c4,⟨⟨⟩,⟨Y,⟨ez,b7⟩⟩⟩⟩⟩⟩⟩⟩⟩;revert O U M N X G F L;refine eY b7 ?_;intro e0 O U M N X G F L;refine xA [_,_,_,_,_] ?_;intro e1 e2 ah;refine Dd [_,_,_,_,_] Ad rfl rfl rfl rfl rfl rfl ah rfl ?_;intro e3 ah;have Z:=ah.blk;dsimp only at Z;have b9:=ah.ext;have e4:=ah.pos;have e5:=ah.size;revert Y O U M N X G F L;refine eE b9 ?_;intro Y O U M N X G F L;refine cT (Ai (cS (C1 Pf (C1 (Pl Z) (C1 V2 (cT (Np (Am (Ag ?_)))))))));rotate_left
  . exact ⟨rfl,X⟩
  clear HG HO HF HW;refine eK ?_;refine AC (AU A9 rfl (HP.out _ _ _ _ _ _ _ _ Ae) (fun _ _ ⟨_,_,_,_,_,_,h⟩=>⟨_,h.1⟩)) rfl ?_ aFh;rintro _ e6 ⟨e7,⟨e8,⟨e9,⟨fa,⟨fb,⟨fc,⟨⟨⟩,⟨am,⟨an,⟨gt,cb⟩⟩⟩⟩⟩⟩⟩⟩⟩⟩;revert Z Y O U M N X G F L;refine eY cb ?_;intro fd Z Y O U M N X G F L;refine eK ?_;refine xA [_,_,_,_,_,_] ?_;intro fe ff cd;refine eI [_,_,_,_,_,_] cd ?_;intro fg ai ce fh fj;revert am an Z Y O U M N X G F L;refine eE ce ?_;intro am an Z Y O U M N X G F L;refine eK ?_;refine eQ rfl (ba.out _ _ _ _ _ _ _ _ _ _ _ _ _ _ _ Ae Ae Ab Ae) ?_;rintro _ fk ⟨fl,⟨fm,⟨c5,⟨c6,⟨c7,⟨c8,⟨⟨⟩,⟨aq,⟨fo,cf⟩⟩⟩⟩⟩⟩⟩⟩⟩;revert ai am an Z Y O U M N X G F L;refine eY cf ?_;intro fp ai am an Z Y O U M N X G F L;refine xA [_,_,_,_,_] ?_;intro fq fs aj;refine Dd [_,_,_,_,_] Ad rfl rfl rfl rfl rfl rfl aj rfl ?_;intro ft aj;have aw:=aj.blk;dsimp only at aw;have cg:=aj.ext;have fu:=aj.pos;have fv:=aj.size;revert aq ai am an Z Y O U M N X G F L;refine eE cg ?_;intro aq ai am an Z Y O U M N X G F L;refine eK ?_;refine cC rfl (HE.out Ae _ _ _ _ _ _ _ _ _ _ _ _ _ _ _ Ae Ae) ?_;rintro _ fw ⟨⟨⟩,ch⟩;revert aw aq ai am an Z Y O U M N X G F L;refine eY ch ?_;intro fx aw aq ai am an Z Y O U M N X G F L;refine eK ?_;refine xR ?_
  all_goals exact ⟨rfl,X⟩
def Gd:nP:=fun _=>True
def Og (W:wD) (b o:Nat) : ∀(len i0:Nat),(∀i,i<len -> ∃(t:Nd) (F:oA) (G:Nat),t.wf/\W.cell? ⟨b,o+(i0+i)*4,none⟩=some (.int .u8 t.kind)/\W.cell? ⟨b,o+(i0+i)*4+1,none⟩=some (.int .i64 t.num)/\W.cell? ⟨b,o+(i0+i)*4+2,none⟩=some (str t.name)/\W.cell? ⟨b,o+(i0+i)*4+3,none⟩=some (.slice F t.kids.length G)/\t.sits Gd W F) ->
 ∃l:List Nd,l.length=len/\C9 l/\rowSits Gd W l (some ⟨b,o+i0*4,none⟩)
 | 0,_,_=>⟨[],rfl,by simp [C9],by simp [rowSits]⟩
 | len+1,i0,h=>by
  obtain ⟨l,X,Y,Z⟩:=Og W b o len (i0+1) (fun i hi=>by
   have:=h (i+1) Ab;rwa [show i0+(i+1)=i0+1+i from by omega] at this)
  obtain ⟨t,F,G,L,N,O,U,V,M⟩:=h 0 Ab;rw [Nat.add_zero] at N O U V;refine ⟨t::l,by simp [X],by simp [C9,L,Y],?_⟩;simp only [rowSits];refine ⟨b,o+i0*4,F,G,rfl,trivial,N,O,U,V,M,?_⟩;rwa [show o+i0*4+4=o+(i0+1)*4 from by omega]
def ZH {W:wD} {a:Addr} {cs:lV} (h:W.cells? 0 a 4=some cs) : ∃c0 F c2 c3,cs=[c0,F,c2,c3]/\W.cell? (a.add 0)=some c0/\W.cell? (a.add 1)=some F/\W.cell? (a.add 2)=some c2/\W.cell? (a.add 3)=some c3:=by
 unfold World.cells? at h;rw [AG (cQ _)] at h;rw [show List.range 4=[0,1,2,3] from rfl] at h;cases e0:W.cell? (a.add 0)<;>simp [e0] at h
 cases e1:W.cell? (a.add 1)<;>simp [e1] at h
 cases e2:W.cell? (a.add 2)<;>simp [e2] at h
 cases e3:W.cell? (a.add 3)<;>simp [e3] at h
 exact ⟨_,_,_,_,h.symm,rfl,rfl,rfl,rfl⟩
def U1 (b o n m:Nat):((⟨b,o,none⟩:Addr).add n).add m=⟨b,o+n+m,none⟩:=by
 unfold eG;by_cases h:n=0<;>by_cases F:m=0<;>simp [h,F]
def IP:prog.cellsOf 26=4:=by kernel_rfl
def WZ:prog.cellsOf 5=1:=by kernel_rfl
def W0:prog.cellsOf 3=1:=by kernel_rfl
def SB:prog.cellsOf 9=1:=by kernel_rfl
def YM:prog.cellsOf 24=1:=by kernel_rfl
def Kg {H:Type} (enc:TypeId×Value->H) (W:wD) (sp:Nat->Bool) (N:Nat) : ∀(G:Nat),G<N -> ∀(cs:lV) (x:DataW H×List MemPlace),dN enc prog W 0 sp true G 26 cs=some x ->
 ∃(t:Nd) (a:oA) (c:Nat),cs=[.int .u8 t.kind,.int .i64 t.num,str t.name,.slice a t.kids.length c]/\t.wf/\t.sits Gd W a:=by
 induction N with
 | zero=>intro G h;omega
 | succ N ih=>
  intro G hN cs x h;obtain ⟨xs,n,rfl,-,hl,ac,hf⟩:=DataW.trod_struct underlying26 h;rw [IP] at hl;obtain ⟨c0,X,c2,c3,rfl⟩ : ∃c0 X c2 c3,cs=[c0,X,c2,c3]:=by
   rcases cs with _|⟨c0,_|⟨X,_|⟨c2,_|⟨c3,_|⟨c4,cs⟩⟩⟩⟩⟩
   . simp at hl
   . simp at hl
   . simp at hl
   . simp at hl
   . exact ⟨_,_,_,_,rfl⟩
   . simp at hl
  obtain ⟨y0,y1,y2,y3,rfl⟩ : ∃y0 y1 y2 y3,xs=[y0,y1,y2,y3]:=by
   have F:xs.length=4:=ac;rcases xs with _|⟨c0,_|⟨X,_|⟨c2,_|⟨c3,_|⟨c4,cs⟩⟩⟩⟩⟩
   . simp at F
   . simp at F
   . simp at F
   . simp at F
   . exact ⟨_,_,_,_,rfl⟩
   . simp at F
  . have f0:dN enc prog W 0 sp true n 5 (([c0,X,c2,c3].drop 0).take (prog.cellsOf 5))=some y0:=hf 0 _ rfl;have f1:dN enc prog W 0 sp true n 3 (([c0,X,c2,c3].drop 1).take (prog.cellsOf 3))=some y1:=hf 1 _ rfl;have f2:dN enc prog W 0 sp true n 9 (([c0,X,c2,c3].drop 2).take (prog.cellsOf 9))=some y2:=hf 2 _ rfl;have f3:dN enc prog W 0 sp true n 24 (([c0,X,c2,c3].drop 3).take (prog.cellsOf 24))=some y3:=hf 3 _ rfl;simp only [WZ,W0,SB,YM,List.drop_zero,List.drop_succ_cons,List.take_succ_cons,List.take_zero] at f0 f1 f2 f3;obtain ⟨k,hk,-,wk⟩:=DataW.trod_int (show prog.underlying 5=some (.int .u8) by kernel_rfl) f0;obtain ⟨m,hm,-,wm⟩:=DataW.trod_int underlying3 f1;obtain ⟨s,hs,-,ws⟩:=DataW.trod_string (show prog.underlying 9=some .string by kernel_rfl) f2;simp only [dU,and_true] at hk hm hs;subst hk hm hs;have L:0<=k/\k<=255:=by simpa [Lit.wf,IntKind.min,IntKind.max,IntKind.signed,IntKind.bits] using wk
    have M : -9223372036854775808<=m/\m<=9223372036854775807:=by simpa [Lit.wf,IntKind.min,IntKind.max,IntKind.signed,IntKind.bits] using wm
    have aa:s.data.toList.length<=9223372036854775807:=by
     have:s.data.toList.length=s.size:=by rw [Array.length_toList];rfl
     unfold maxLen at ws;omega
    rcases DataW.trod_slice underlying24 f3 with ⟨hc,-⟩|⟨a,len,cap,O,rest,n',aj,hc,-,-,ak,af,al,hE,-⟩
    . simp only [dU,and_true] at hc;subst hc;exact ⟨.mk k m s.data.toList [],none,0,rfl,⟨L.1,L.2,M.1,M.2,aa,AR,by simp [C9]⟩,by simp [Nd.sits,rowSits]⟩
    . simp only [dU,and_true] at hc;subst hc;rw [IP] at hE;rcases Nat.eq_zero_or_pos len with h0|ad
      . subst h0;exact ⟨.mk k m s.data.toList [],some a,cap,rfl,⟨L.1,L.2,M.1,M.2,aa,AR,by simp [C9]⟩,by simp [Nd.sits,rowSits]⟩
      . have Y : ∀i,i<len -> ∃(t:Nd) (a':oA) (c':Nat),t.wf/\W.cell? ((a.add (i*4)).add 0)=some (.int .u8 t.kind)/\W.cell? ((a.add (i*4)).add 1)=some (.int .i64 t.num)/\W.cell? ((a.add (i*4)).add 2)=some (str t.name)/\W.cell? ((a.add (i*4)).add 3)=some (.slice a' t.kids.length c')/\t.sits Gd W a':=by
         intro i hi;have U:=hE i hi;cases hc4:W.cells? 0 (a.add (i*4)) 4 with
         | none=>
          rw [hc4] at U;have hh:O[i]? = some O[i]:=bT Ab;rw [hh] at U;simp at U
         | some am=>
          rw [hc4,bT Ab] at U;obtain ⟨d0,d1,d2,d3,rfl,V,e1,e2,e3⟩:=ZH hc4;obtain ⟨t,a',c',ae,hw,hs⟩:=ih n' Ab _ _ U;simp only [dU,and_true] at ae;obtain ⟨rfl,rfl,rfl,rfl⟩:=ae;exact ⟨t,a',c',hw,V,e1,e2,e3,hs⟩
        obtain ⟨b,o,Z⟩:=a;have ab:Z=none:=by
         obtain ⟨t,a',c',-,V,-⟩:=Y 0 ad;simp only [Nat.zero_mul,eG,if_true] at V;unfold World.cell? at V;cases Z with
         | none=>rfl
         | some q=>simp at V;split at V<;>simp at V
        subst ab;obtain ⟨l,ag,ah,ai⟩:=Og W b o len 0 (fun i hi=>by
         obtain ⟨t,a',c',hw,V,e1,e2,e3,hs⟩:=Y i hi;rw [U1] at V e1 e2 e3;rw [eJ];exact ⟨t,a',c',hw,V,e1,e2,e3,hs⟩)
        subst ag;refine ⟨.mk k m s.data.toList l,some ⟨b,o,none⟩,cap,rfl,⟨L.1,L.2,M.1,M.2,aa,by unfold maxLen at af;omega,ah⟩,?_⟩;simpa [Nd.sits] using ai
def U2 {W:wD} {p:Addr} {k:Nat} {cs:lV} (h:W.cells? 0 p k=some cs):Row W p cs/\cs.length=k:=by
 unfold World.cells? at h;rw [AG (cQ _)] at h;refine ⟨fun i v F=>?_,by simpa using mapM_some_length h⟩;have M:cs.length=k:=by simpa using mapM_some_length h
 have G:i<k:=by
  rcases cO i cs.length with L|L
  . omega
  . rw [cI L] at F;cases F
 have:=mapM_some_get h i i (by simp [G]);rw [F] at this;exact this
def W4 (b o i:Nat):(⟨b,o,none⟩:Addr).add i=⟨b,o+i,none⟩:=by unfold eG;by_cases h:i=0<;>simp [h]
def Gu {α H:Type} (enc:TypeId×Value->H) (W:wD) (sp:Nat->Bool) {t e k:Nat} (ht:prog.underlying t=some (.slice e)) (hk:prog.cellsOf e=k) (ab:0<k) (G:lV->α->Prop)
 {L:Nat} (hG : ∀(n:Nat) (cs:lV) (x:DataW H×List MemPlace),n<L->dN enc prog W 0 sp true n e cs=some x -> ∃y,G cs y) {c:Value} {x:DataW H×List MemPlace} (h:dN enc prog W 0 sp true L t [c]=some x) :
 ∃(l:List α) (a:oA) (cap:Nat),c = .slice a l.length cap/\l.length<=9223372036854775807/\Arr Gd k (fun w b o y=> ∃cs,Row w ⟨b,o,none⟩ cs/\G cs y) W l a:=by
 rcases DataW.trod_slice ht h with ⟨U,-⟩|⟨a,len,cap,Z,rest,n',ac,U,-,-,ad,aa,ae,hE,-⟩
 . simp only [dU,and_true] at U;exact ⟨[],none,0,U,AR,bW rfl⟩
 . simp only [dU,and_true] at U;rw [hk] at hE;unfold maxLen at aa;rcases Nat.eq_zero_or_pos len with h0|V
   . subst h0;exact ⟨[],some a,cap,U,AR,bW rfl⟩
   . have M : ∀i,i<len -> ∃y cs,Row W (a.add (i*k)) cs/\cs.length=k/\G cs y:=fun i hi=>by
      have F:=hE i hi;cases hc4:W.cells? 0 (a.add (i*k)) k with
      | none=>
       rw [hc4,bT Ab] at F;simp at F
      | some cs=>
       rw [hc4,bT Ab] at F;obtain ⟨r1,r2⟩:=U2 hc4;obtain ⟨y,hy⟩:=hG n' cs _ Ab F;exact ⟨y,cs,r1,r2,hy⟩
     obtain ⟨b,o,X⟩:=a;have N:X=none:=by
      obtain ⟨y,cs,r,hl,-⟩:=M 0 V;simp only [Nat.zero_mul,eG,if_true] at r;cases cs with
      | nil=>simp at hl;omega
      | cons v vs=>
       have:=r 0 v rfl;simp only [eG,if_true] at this;exact Tt this
     subst N;have hl : ∃l:List α,l.length=len /\ ∀i y,l[i]? = some y -> ∃cs,Row W ⟨b,o+i*k,none⟩ cs/\G cs y:=by
      have key : ∀m,m<=len -> ∃l:List α,l.length=m /\ ∀i y,l[i]? = some y -> ∃cs,Row W ⟨b,o+i*k,none⟩ cs/\G cs y:=by
       intro m
       induction m with
       | zero=>intro _;exact ⟨[],rfl,AR⟩
       | succ m ih=>
        intro hm;obtain ⟨l,Y,h2⟩:=ih Ab;obtain ⟨y,cs,r,-,hg⟩:=M m Ab;rw [W4] at r;refine ⟨l++[y],by simp [Y],fun i z O=>?_⟩;rcases cO i m with hi|hi
        . rw [cK Ab] at O;exact h2 i z O
        . rw [cW Ab] at O;obtain rfl:i=m:=by
           rcases cO m i with h'|h'
           . rw [cI (by simp;omega)] at O;cases O
           . omega
          simp [Y] at O;subst O;exact ⟨cs,r,hg⟩
      exact key len (cH _)
     obtain ⟨l,Y,h2⟩:=hl;subst Y;exact ⟨l,some ⟨b,o,none⟩,cap,U,Ab,bX ⟨b,o,rfl,trivial,h2⟩⟩
def aK {cs:lV} (h:cs.length=3) : ∃a b c,cs=[a,b,c]:=by
 rcases cs with _|⟨a,_|⟨b,_|⟨c,_|⟨d,r⟩⟩⟩⟩<;>simp at h;exact ⟨a,b,c,rfl⟩
def aL {cs:lV} (h:cs.length=6) : ∃a b c d e f,cs=[a,b,c,d,e,f]:=by
 rcases cs with _|⟨a,_|⟨b,_|⟨c,_|⟨d,_|⟨e,_|⟨f,_|⟨g,r⟩⟩⟩⟩⟩⟩⟩<;>simp at h;exact ⟨a,b,c,d,e,f,rfl⟩
def CC {α:Type} {xs:List α} {n i:Nat} (h:xs.length=n) (F:i<n) : ∃y,xs[i]? = some y:=⟨xs[i],bT Ab⟩
def bG:prog.cellsOf 66=3:=by kernel_rfl
def aM:prog.cellsOf 22=1:=by kernel_rfl
def bH:prog.cellsOf 59=6:=by kernel_rfl
def bB:prog.cellsOf 23=1:=by kernel_rfl
def bR:prog.cellsOf 28=6:=by kernel_rfl
section
variable {H:Type} (enc:TypeId×Value->H) (W:wD) (sp:Nat->Bool)
def SC {G:Nat} {cs:lV} {x:DataW H×List MemPlace} (h:dN enc prog W 0 sp true G 66 cs=some x) : ∃v:VD,cs=v.cells/\v.wf:=by
 obtain ⟨xs,n,rfl,-,V,F,N⟩:=DataW.trod_struct underlying66 h;rw [bG] at V;obtain ⟨c0,O,c2,rfl⟩:=aK V;obtain ⟨y0,e0⟩:=CC (i:=0) F AY;obtain ⟨y1,e1⟩:=CC (i:=1) F AY;obtain ⟨y2,e2⟩:=CC (i:=2) F AY;have X:dN enc prog W 0 sp true n 9 (([c0,O,c2].drop 0).take (prog.cellsOf 9))=some y0:=(N 0 _ rfl).trans e0;have Y:dN enc prog W 0 sp true n 5 (([c0,O,c2].drop 1).take (prog.cellsOf 5))=some y1:=(N 1 _ rfl).trans e1;have Z:dN enc prog W 0 sp true n 3 (([c0,O,c2].drop 2).take (prog.cellsOf 3))=some y2:=(N 2 _ rfl).trans e2;simp only [WZ,W0,SB,List.drop_zero,List.drop_succ_cons,List.take_succ_cons,List.take_zero] at X Y Z;obtain ⟨s,hs,-,ws⟩:=DataW.trod_string FV X;obtain ⟨k,hk,-,wk⟩:=DataW.trod_int (show prog.underlying 5=some (.int .u8) by kernel_rfl) Y;obtain ⟨m,hm,-,wm⟩:=DataW.trod_int underlying3 Z;simp only [dU,and_true] at hk hm hs;subst hk hm hs;have L:0<=k/\k<=255:=by simpa [Lit.wf,IntKind.min,IntKind.max,IntKind.signed,IntKind.bits] using wk
 have M : -9223372036854775808<=m/\m<=9223372036854775807:=by simpa [Lit.wf,IntKind.min,IntKind.max,IntKind.signed,IntKind.bits] using wm
 have U:s.data.toList.length<=9223372036854775807:=by
  have:s.data.toList.length=s.size:=by rw [Array.length_toList];rfl
  unfold maxLen at ws;omega
 exact ⟨⟨s.data.toList,k,m⟩,rfl,U,L.1,L.2,M.1,M.2⟩
end
def Pe {α H:Type} (enc:TypeId×Value->H) (W:wD) (sp:Nat->Bool) {t e k:Nat} (U:prog.underlying t=some (.slice e)) (X:prog.cellsOf e=k) (M:0<k) (G:lV->α->Prop)
 {F:Nat} (Y : ∀(n:Nat) (cs:lV) (x:DataW H×List MemPlace),n<F->dN enc prog W 0 sp true n e cs=some x -> ∃y,G cs y) {c:Value} {x:DataW H×List MemPlace} (h:dN enc prog W 0 sp true F t [c]=some x) :
 ∃(l:List α) (a:oA) (cap:Nat),c = .slice a l.length cap/\l.length<=9223372036854775807/\Arr Gd k (fun w b o y=> ∃cs,Row w ⟨b,o,none⟩ cs/\G cs y) W l a/\l.length<=cap:=by
 obtain ⟨l,a,cap,N,Z,h3⟩:=Gu enc W sp U X M G Y h;refine ⟨l,a,cap,N,Z,h3,?_⟩;rcases DataW.trod_slice U h with ⟨L,-⟩|⟨a',len,V,O,rest,n',aa,L,-,-,ab,-⟩
 . simp only [dU,and_true] at L;rw [N] at L;simp only [dI] at L;omega
 . simp only [dU,and_true] at L;rw [N] at L;simp only [dI] at L;omega
section
variable {H:Type} (enc:TypeId×Value->H) (W:wD) (sp:Nat->Bool)
def Kh {F:Nat} {c:Value} {x:DataW H×List MemPlace} (h:dN enc prog W 0 sp true F 22 [c]=some x) :
 ∃(l:List VD) (a:oA) (cap:Nat),c = .slice a l.length cap/\l.length<=9223372036854775807/\(∀v∈l,v.wf)/\VDs Gd W l a/\l.length<=cap:=by
 obtain ⟨l,a,cap,M,N,G,O⟩:=Pe (α:=VD) enc W sp underlying22 bG AY (fun cs v=>cs=v.cells/\v.wf) (fun n cs x _ U=>SC enc W sp U) h;refine ⟨l,a,cap,M,N,fun v L=>?_,G.mono aFh (fun b o v _ _ ⟨cs,r,e,_⟩=>by subst e;exact r),O⟩;rcases G with rfl|⟨b,o,-,-,V⟩
 . cases L
 . obtain ⟨i,X,rfl⟩:=List.mem_iff_getElem.1 L;obtain ⟨cs,-,-,Y⟩:=V i _ (bT X);exact Y
def Rj {G:Nat} {cs:lV} {x:DataW H×List MemPlace} (h:dN enc prog W 0 sp true G 59 cs=some x) : ∃p:PD,(∃N O U V,cs=p.cells N O U V/\VDs Gd W p.params N/\p.body.sits Gd W U/\p.params.length<=O)/\p.wf:=by
 obtain ⟨xs,n,rfl,-,hl,F,X⟩:=DataW.trod_struct underlying59 h;rw [bH] at hl;obtain ⟨c0,Y,c2,c3,c4,c5,rfl⟩:=aL hl;obtain ⟨y0,e0⟩:=CC (i:=0) F AY;obtain ⟨y1,e1⟩:=CC (i:=1) F AY;obtain ⟨y2,e2⟩:=CC (i:=2) F AY;have f0:dN enc prog W 0 sp true n 9 (([c0,Y,c2,c3,c4,c5].drop 0).take (prog.cellsOf 9))=some y0:=(X 0 _ rfl).trans e0;have f1:dN enc prog W 0 sp true n 22 (([c0,Y,c2,c3,c4,c5].drop 1).take (prog.cellsOf 22))=some y1:=(X 1 _ rfl).trans e1;have f2:dN enc prog W 0 sp true n 26 (([c0,Y,c2,c3,c4,c5].drop 2).take (prog.cellsOf 26))=some y2:=(X 2 _ rfl).trans e2;simp only [aM,SB,IP,List.drop_zero,List.drop_succ_cons,List.take_succ_cons,List.take_zero] at f0 f1 f2;obtain ⟨s,hs,-,ws⟩:=DataW.trod_string FV f0;obtain ⟨l,N,O,hc,Z,aa,ab,ac⟩:=Kh enc W sp f1;obtain ⟨t,U,V,L,hw,M⟩:=Kg enc W sp (n+1) n Ab _ _ f2;simp only [dU,and_true] at hs L;obtain ⟨rfl,rfl,rfl,rfl⟩:=L;subst hs hc;have ad:s.data.toList.length<=9223372036854775807:=by
  have:s.data.toList.length=s.size:=by rw [Array.length_toList];rfl
  unfold maxLen at ws;omega
 exact ⟨⟨s.data.toList,l,t⟩,⟨N,O,U,V,rfl,ab,M,ac⟩,ad,Z,aa,hw⟩
def pg_of_trodR {N:Nat} {cs:lV} {x:DataW H×List MemPlace} (h:dN enc prog W 0 sp true N 28 cs=some x) : ∃(g:PG) (Z:oA) (vc:Nat) (F:oA) (L:Nat) (ma:oA) (mc:Nat),cs=g.cells Z vc F L ma mc/\g.wf/\g.sits Gd W Z F ma/\PDsC Gd W g.procs F/\g.vars.length<=vc:=by
 obtain ⟨xs,n,rfl,-,hl,G,hf⟩:=DataW.trod_struct underlying28 h;rw [bR] at hl;obtain ⟨c0,c1,c2,c3,c4,c5,rfl⟩:=aL hl;obtain ⟨y0,e0⟩:=CC (i:=0) G AY;obtain ⟨y1,e1⟩:=CC (i:=1) G AY;obtain ⟨y2,e2⟩:=CC (i:=2) G AY;have f0:dN enc prog W 0 sp true n 22 (([c0,c1,c2,c3,c4,c5].drop 0).take (prog.cellsOf 22))=some y0:=(hf 0 _ rfl).trans e0;have f1:dN enc prog W 0 sp true n 23 (([c0,c1,c2,c3,c4,c5].drop 1).take (prog.cellsOf 23))=some y1:=(hf 1 _ rfl).trans e1;have f2:dN enc prog W 0 sp true n 26 (([c0,c1,c2,c3,c4,c5].drop 2).take (prog.cellsOf 26))=some y2:=(hf 2 _ rfl).trans e2;simp only [aM,bB,IP,List.drop_zero,List.drop_succ_cons,List.take_succ_cons,List.take_zero] at f0 f1 f2;obtain ⟨l,Z,vc,hc,aa,ab,ac,ad⟩:=Kh enc W sp f0;obtain ⟨ps,F,L,hp,ae,O⟩:=Gu (α:=PD) enc W sp underlying23 bH AY (fun cs p=>(∃F L M U,cs=p.cells F L M U/\VDs Gd W p.params F/\p.body.sits Gd W M/\p.params.length<=L)/\p.wf) (fun n cs x _ hx=>Rj enc W sp hx) f1;obtain ⟨t,M,U,V,hw,X⟩:=Kg enc W sp (n+1) n Ab _ _ f2;simp only [dU,and_true] at V;obtain ⟨rfl,rfl,rfl,rfl⟩:=V;subst hc hp;have Y:PDsC Gd W ps F:=O.mono aFh (fun b o p _ _ ⟨cs,r,⟨F,L,M,U,e,h1,h2,h3⟩,_⟩=>by
  subst e;exact ⟨F,L,M,U,r,h1,h2,h3⟩)
 refine ⟨⟨l,ps,t⟩,Z,vc,F,L,M,U,rfl,⟨aa,ae,ab,fun p hp=>?_,hw⟩,⟨ac,Y.pds,X⟩,Y,ad⟩;rcases O with rfl|⟨b,o,-,-,hh⟩
 . cases hp
 . obtain ⟨i,hi,rfl⟩:=List.mem_iff_getElem.1 hp;obtain ⟨cs,-,-,hw⟩:=hh i _ (bT hi);exact hw
end
def bC:prog.cellsOf 3=1:=by kernel_rfl
def YY:prog.cellsOf 30=1:=by kernel_rfl
def ZI:prog.cellsOf 29=1:=by kernel_rfl
def ZJ:prog.cellsOf 32=3:=by kernel_rfl
section
variable {H:Type} (enc:TypeId×Value->H) (W:wD) (sp:Nat->Bool)
def W5 (x:Int):Prop:= -9223372036854775808<=x/\x<=9223372036854775807
def GA {L:Nat} {c:Value} {x:DataW H×List MemPlace} (h:dN enc prog W 0 sp true L 30 [c]=some x) :
 ∃(l:List Int) (a:oA) (cap:Nat),c = .slice a l.length cap/\Rows Gd W (ints l) a /\ ∀x∈l,W5 x:=by
 obtain ⟨l,a,cap,Y,h2,O⟩:=Gu (α:=Int) enc W sp underlying30 bC AY (fun cs v=>cs=[.int .i64 v]/\W5 v) (fun n cs x _ F=>by
  obtain ⟨m,Z,-,M⟩:=DataW.trod_int underlying3 F;exact ⟨m,Z,by unfold W5;simpa [Lit.wf,IntKind.min,IntKind.max,IntKind.signed,IntKind.bits] using M⟩) h
 refine ⟨l,a,cap,Y,?_,?_⟩
 . rcases O with rfl|⟨b,o,U,V,N⟩
   . exact bW rfl
   . refine bX ⟨b,o,U,V,fun i v G=>?_⟩;rw [dZ] at G;cases F:l[i]? with
     | none=>rw [F] at G;cases G
     | some y=>
      rw [F] at G;obtain rfl:=cD G;obtain ⟨cs,X,rfl,-⟩:=N i y F;have:=X.at0 rfl;rw [Nat.mul_one] at this;have e:(⟨b,o,none⟩:Addr).add i=⟨b,o+i,none⟩:=by unfold eG;by_cases h0:i=0<;>simp [h0]
      rw [e];exact this
 . rcases O with rfl|⟨b,o,U,V,N⟩
   . intro x F;cases F
   . intro x F;obtain ⟨i,G,rfl⟩:=List.mem_iff_getElem.1 F;obtain ⟨cs,X,-,M⟩:=N i _ (bT G);exact M
def Lf {G:Nat} {c:Value} {x:DataW H×List MemPlace} (h:dN enc prog W 0 sp true G 29 [c]=some x) :
 ∃(l:List (List Int)) (a:oA) (cap:Nat),c = .slice a l.length cap/\ICs Gd W l a /\ ∀xs∈l,∀x∈xs,W5 x:=by
 obtain ⟨l,a,cap,N,L,M⟩:=Gu (α:=List Int) enc W sp underlying29 YY AY (fun cs v=>(∃a e,cs=[.slice a v.length e]/\Rows Gd W (ints v) a) /\ ∀x∈v,W5 x) (fun n cs x _ F=>by
  obtain ⟨c0,rfl⟩ : ∃c0,cs=[c0]:=by
   rcases DataW.trod_slice underlying30 F with ⟨O,-⟩|⟨a',len,V,U,rest,n',X,O,-⟩
   . exact ⟨_,O⟩
   . exact ⟨_,O⟩
  obtain ⟨l,a,cap,rfl,L,M⟩:=GA enc W sp F;exact ⟨l,⟨a,cap,rfl,L⟩,M⟩) h
 refine ⟨l,a,cap,N,M.mono aFh (fun b o v _ _ ⟨cs,r,⟨a,e,N,L⟩,_⟩=>⟨a,e,N▸r,L⟩),?_⟩;rcases M with rfl|⟨b,o,ha,hb,Y⟩
 . intro x F;cases F
 . intro x F;obtain ⟨i,Z,rfl⟩:=List.mem_iff_getElem.1 F;obtain ⟨cs,hr,-,hw⟩:=Y i _ (bT Z);exact hw
def sv_of_trodR {G:Nat} {cs:lV} {x:DataW H×List MemPlace} (h:dN enc prog W 0 sp true G 32 cs=some x) : ∃(s:SV) (a:oA) (c:Nat) (ta:oA) (L:Nat) (oa:oA) (M:Nat),cs=s.row a c ta L oa M/\s.sits Gd W a ta oa/\(∀xs∈s.cells,∀x∈xs,W5 x)/\(∀x∈s.tin,W5 x) /\ ∀x∈s.tout,W5 x:=by
 obtain ⟨xs,n,rfl,-,U,F,N⟩:=DataW.trod_struct underlying32 h;rw [ZJ] at U;obtain ⟨c0,O,c2,rfl⟩:=aK U;obtain ⟨Z,e0⟩:=CC (i:=0) F AY;obtain ⟨y1,e1⟩:=CC (i:=1) F AY;obtain ⟨y2,e2⟩:=CC (i:=2) F AY;have V:dN enc prog W 0 sp true n 29 (([c0,O,c2].drop 0).take (prog.cellsOf 29))=some Z:=(N 0 _ rfl).trans e0;have X:dN enc prog W 0 sp true n 30 (([c0,O,c2].drop 1).take (prog.cellsOf 30))=some y1:=(N 1 _ rfl).trans e1;have Y:dN enc prog W 0 sp true n 30 (([c0,O,c2].drop 2).take (prog.cellsOf 30))=some y2:=(N 2 _ rfl).trans e2;simp only [YY,ZI,List.drop_zero,List.drop_succ_cons,List.take_succ_cons,List.take_zero] at V X Y;obtain ⟨l,a,c,rfl,h1,r1⟩:=Lf enc W sp V;obtain ⟨ti,ta,L,rfl,h2,r2⟩:=GA enc W sp X;obtain ⟨to,oa,M,rfl,h3,r3⟩:=GA enc W sp Y;exact ⟨⟨l,ti,to⟩,a,c,ta,L,oa,M,rfl,⟨h1,h2,h3⟩,r1,r2,r3⟩
end
end Bk
namespace Bk
open Go Go.RowKit Go.Proofs
def InverterReturns_d (g:PG) (F:oA) (vc:Nat) (h:oA) (U:Nat) (G:oA) (V:Nat) (s:SV) (ca:oA) (X:Nat) (ta:oA) (Y:Nat) (oa:oA) (Z:Nat) (w:wD) (L:g.wf) (hs:g.sits Gd w F h G) (M:PDsC Gd w g.procs h) (N:g.vars.length<=vc) (hv:s.sits Gd w ca ta oa)
 (O:(∀xs∈s.cells,∀x∈xs,W5 x)/\(∀x∈s.tin,W5 x) /\ ∀x∈s.tout,W5 x) (hS:Syms w) (hE:Errs w) :
 Calls prog 5 #[.agg (g.cells F vc h U G V).toArray,.agg (s.row ca X ta Y oa Z).toArray] w fun e w'=>e = .returned (.bool true)/\Ext w w':=Kf g L s ⟨O.1,O.2.1,O.2.2⟩ Gd F vc h U G V ca ta oa X Y Z w hs M N hv hS hE
open Go.Lib
def Ng {H:Type} {enc:TypeId×Value->H} {P:Program} {w:wD} {base:Nat} {sp:Nat->Bool} {G:Bool} {F:Nat} {t e:TypeId} {n:Nat} {cs:lV} {zs:List lB} {p:List MemPlace}
 (X:P.underlying t=some (.array n e)) (Y:P.underlying e=some .string) (M:P.cellsOf e=1) (N:P.cellsOf t=n)
 (h:dN enc P w base sp G F t cs=some (.agg (zs.map fun z=>.lit (.string z)),p)):cs=zs.map str:=by
 cases F with
 | zero=>simp [dN] at h
 | succ F=>
  simp only [dN,X,M,N,Nat.mul_one] at h;split at h
  . rename_i hl;obtain ⟨xs,V,Z⟩:=Option.map_eq_some_iff.1 h;have L:xs.map (·.1)=zs.map fun z=>(DataW.lit (.string z):DataW H):=by
     have:=congrArg Prod.fst Z;simpa using this
    have aa:xs.length=n:=by simpa using mapM_length V
    have ab:zs.length=n:=by
     have:=congrArg List.length L;simp at this;omega
    apply List.ext_getElem?;intro i;by_cases hi:i<n
    . obtain ⟨b,hb,hf⟩:=mapM_at V i i (by simp [hi]);obtain ⟨z,hc,rfl,_⟩:=DataW.trod_string Y hf;have h1:cs[i]? = some (.string z):=by
       have:=congrArg (·[0]?) hc;simpa [List.getElem?_take,List.getElem?_drop] using this
      have O:(xs.map (·.1))[i]? = some (DataW.lit (.string z.data.toList):DataW H):=by simp [hb]
      rw [L] at O;simp only [dZ,Option.map_eq_some_iff,DataW.lit.injEq,Lit.string.injEq] at O;obtain ⟨z',U,rfl⟩:=O;simp [h1,U]
    . rw [cI Ab,cI (by simp;omega)]
  . cases h
def gSym4:prog.globalNamed "backstep/arith.symbols" = some 0:=by kernel_rfl
def gSymT4:(prog.globals[0]?).map (·.type)=some 165:=by kernel_rfl
def ZK:prog.underlying 165=some (.array 43 9):=by kernel_rfl
def ZL:prog.cellsOf 165=43:=by kernel_rfl
def aN:prog.underlying 9=some .string:=by kernel_rfl
def aO:prog.cellsOf 9=1:=by kernel_rfl
def gErr4:prog.globalNamed "strconv.ErrRange" = some 3:=by kernel_rfl
def gErrT4:(prog.globals[3]?).map (·.type)=some 217:=by kernel_rfl
def aP : ∃h,prog.underlying 217=some (.interface h):=⟨_,underlying217⟩
def W6:(YtipjiidkdllbpaaGreatDoor.Rows.laid_backstep_arith_symbols:DataW Unit) = .agg (symbols.map fun z=>.lit (.string z)):=rfl
abbrev YZ:List (String×DataW Unit):=[("backstep/arith.symbols",YtipjiidkdllbpaaGreatDoor.Rows.laid_backstep_arith_symbols),("math/bits.deBruijn32tab",YtipjiidkdllbpaaGreatDoor.Rows.laid_math_bits_deBruijn32tab),("math/bits.deBruijn64tab",YtipjiidkdllbpaaGreatDoor.Rows.laid_math_bits_deBruijn64tab),("internal/strconv.uint64pow10",YtipjiidkdllbpaaGreatDoor.Rows.laid_internal_strconv_uint64pow10),("strconv.ErrRange",YtipjiidkdllbpaaGreatDoor.Rows.laid_strconv_ErrRange),("strconv.ErrSyntax",YtipjiidkdllbpaaGreatDoor.Rows.laid_strconv_ErrSyntax)]
def syms_of_laid {W:wD} (h:laidMetH prog YZ W):Syms W/\Errs W:=by
 have X:laidMet prog YZ W:=h;obtain ⟨ps,⟨g1,t1,Y,f1,p1,q1,G,L,M,F,⟨g2,t2,Z,f2,p2,q2,aa,ab,ac,ad,⟨g3,t3,ae,f3,p3,q3,af,ag,ah,ai,⟨g4,t4,aj,f4,p4,q4,ak,al,am,an,⟨g5,t5,ao,f5,p5,q5,N,O,U,V,-,-⟩,-⟩,-⟩,-⟩,-⟩,-⟩:=X;obtain rfl:=cD (gSym4.symm.trans G);obtain rfl:=cD (gSymT4.symm.trans L);obtain rfl:=cD (gErr4.symm.trans N);obtain rfl:=cD (gErrT4.symm.trans O);rw [W6] at F;have e1:=Ng ZK aN aO ZL F;refine ⟨⟨fun i hi=>?_⟩,?_⟩
 . rw [World.var?_cell gSym4 M i,<-Array.getElem?_toList,e1,dZ];have:symbols[i]? = some (symbols.getD i []):=by
    rw [cB,bT (show i<symbols.length from hi)];rfl
   rw [this];rfl
 . obtain ⟨ms,hu⟩:=aP;obtain ⟨f,u,v,hc,-,-⟩:=iface_of_trod hu V;refine ⟨⟨u,v,?_⟩⟩;rw [World.var?_cell gErr4 U 0,<-Array.getElem?_toList,hc];rfl
end Bk
