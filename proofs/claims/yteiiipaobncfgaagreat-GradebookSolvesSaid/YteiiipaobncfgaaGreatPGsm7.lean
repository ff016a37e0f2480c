/- Texts that the proofs of GradebookSolves need. No condition. (Part 7 of 7.) -/
import Derived.Test.YteiiipaobncfgaaGreatPGsm6
set_option linter.unusedSimpArgs false
set_option linter.unusedVariables false
set_option linter.defProp false
set_option maxRecDepth 100000
set_option maxHeartbeats 4000000
open Go.Proofs.Tryz
open Or renaming inl->gP,inr->gQ
open Go.Result renaming andThen->gY
open Except renaming bind->ir
open Go renaming Calls->iv
open Go.Value renaming slice->iD,int->iW,ownBlock->jB
open Nat renaming blt->iE,ble->jr,beq->jv
open Go.Region renaming ready->iH,binds->jh
open List renaming replicate->iL,range->jj
open Go.Builtin renaming zeroCells->i9
open Go.IntKind renaming wrap->jo
open Array renaming replicate->jt
open Go.Oper renaming wp->jy
open Go.Addr renaming add->jA
open Go.Sem renaming run->jP
namespace Bk
open Go Go.RowKit Go.Proofs
variable {M:Nat} {H:Type} {es:List EX} {cs:lV} {c:Value}
def Wi (N:(es.map (·.name)).Nodup) {j:Nat} {e:EX} (h:es[j]? = some e):S0 es e.name=some j:=by
 have G:=(exIV_mem (es:=es) (n:=e.name)).2 (List.mem_map_of_mem (iF h));cases hi:S0 es e.name with
 | none=>unfold Ia at G;rw [hi] at G;exact absurd G B7
 | some i=>
  obtain ⟨V,M,O,-⟩:=Nx hi;have U:=(List.getElem?_eq_some_iff.1 M).1;have:=(List.getElem?_inj (i:=i) (j:=j) (l:=es.map (·.name)) (by simpa using U) N).1 (by rw [iJ,iJ,M,h];exact congrArg some O);rw [this]
def TD (M:(es.map (·.name)).Nodup) {j:Nat} {e:EX} (h:es[j]? = some e) (N:e.g.wf) (O:e.valid) (L:List AtV) {s:BJ} (U:Cv s=true) :
 ∃v:VdV,Cm es L s e.name e.g.pinv=((v,0),KP L s e.name true)/\v.ok=true:=by
 obtain ⟨V,G⟩:=Wc N O;refine ⟨(BM e e.g.pinv).1,?_,G⟩;unfold Cm;rw [AH U,Wi M h];simp only [h];rw [At (not_not_intro V),G]
def Yz {L:List AtV} {s n:BJ} (h:Ce L s n=false) (ok:Bool):KP L s n ok=L++[⟨s,n,ok⟩]:=by unfold KP;rw [h];rfl
def YA {L:List AtV} {s n:BJ} (h:Ce L s n=true) (ok:Bool):KP L s n ok=L:=by unfold KP;rw [h];rfl
def NG {L:List AtV} {s n:BJ} {p:PG} (h:Ce L s n=true):(Cm es L s n p).2=L:=by
 unfold Cm;split
 . split
   . rfl
   . split
     . rfl
     . split
       . rfl
       . exact YA h _
 . rfl
def Se {s n:BJ}:∀ps:List (BJ×Int),n∉ps.map (·.1)->CG [⟨s,n,true⟩] s ps=0
 | [],_=>rfl
 | x::r,h=>by
  rw [CG,Se r (λe=>h (iU _ e)),At]
  . rfl
  . simp only [Ce,List.any_cons,List.any_nil];intro e;simp at e;exact h (by rw [e];simp)
def Us {s n:BJ} {v:Int}:∀ps:List (BJ×Int),(ps.map (·.1)).Nodup->(n,v)∈ps->CG [⟨s,n,true⟩] s ps=v
 | [],_,h=>by cases h
 | x::r,G,h=>by
  rw [iR,List.nodup_cons] at G;rcases io.1 h with rfl|h
  . rw [CG,Se r G.1,AH (by simp [Ce])];omega
  . rw [CG,Us r G.2 h,At]
    . omega
    . intro e;simp [Ce] at e;exact G.1 (by rw [<-e];exact List.mem_map_of_mem (f:=(·.1)) h)
def dL {l:List EX} (h:(l.map (·.name)).Nodup) {e:EX} (G:e∈l) (s:BJ):CG [⟨s,e.name,true⟩] s (Ki l)=e.points/\DV [⟨s,e.name,true⟩] s e.name=1/\Hy JB [⟨s,e.name,true⟩]=[s]/\Ce [⟨s,e.name,true⟩] s e.name=true:=by
 refine ⟨Us _ ?_ ?_,by simp [DV],rfl,by simp [Ce]⟩
 . unfold Ki;rw [List.map_map];exact h
 . unfold Ki;exact List.mem_map_of_mem (f:=λe:EX=>(e.name,e.points)) G
attribute [local irreducible] Go.Calls
def Sf {w:wD} {b:Nat} (h:Blk w b cs):Rows (λ_=>True) w cs (some ⟨b,0,none⟩):=gQ ⟨b,0,rfl,trivial,h.row⟩
section
variable {L:List AtV}
end
def BkAt.ltX {G X:nP} {w:wD} {L:List AtV} (h:BkAt G X w M es L):∀k,X k\/G k->k<w.heap.size:=by
 obtain ⟨_,_,_,-,-,-,-,N,O⟩:=h;exact λk U=>U.elim (λh=>(N k h).2) (O k)
section
variable {P:Program} {n:Nat} {l:Sl} {S:wD->Prop} {t t':Nat} {x y:Operand} {ty:TypeId} {a b:lB}
end
set_option maxHeartbeats 8000000 in
def TE (l:List EX) (k:Int) (k0:0<=k) (k1:k<=255) (p:PG) (br:p.wf) (hl:∀e∈l,e.name.length<=9223372036854775807/\e.g.wf) (S S':nP) (a:oA) (c:Nat) (va:oA) (vc:Nat) (pa:oA) (pc:Nat) (ma:oA) (mc:Nat) (w:wD) (V:EXs S w l a) (hq:p.sits S' w va pa ma) (N:PDsC S' w p.procs pa) (cw:p.vars.length<=vc) :
 Calls prog 9 #[.slice a l.length c,.int .u8 k,.agg (p.cells va vc pa pc ma mc).toArray] w λe w'=>e = .returned (.bool true)/\Ext w w':=by
 have X:=Ne w;have V:=V.ltA;have hq:=hq.ltA;have N:=N.ltA;have HM:=gO (λw1 h=>aH l [] (λe he=>(hl e he).2) AK (· < w.heap.size) (λ_=>True) a none c 0 w1 h (gP rfl));simp only [iG] at HM;have bs:=gO (λw1 h=>P5 p br (· < w.heap.size) va vc pa pc ma mc w1 h);refine Ad func9 ntmps9 rfl rfl ?_
 focus
  refine cS (eB [_,_,_,_,_,_] ?_);intro b1 w2 h4 x5 p6 z7;revert X V hq N;refine eE x5 ?_;intro X V hq N;refine kC (Wg _) ?_;rintro _ w9 ⟨⟨⟩,x8⟩;revert h4 X V hq N;refine eY x8 ?_;intro ey h4 X V hq N;refine kQ (HM.out _ Ae) ?_;rintro _ ez ⟨e0,⟨⟩,bt,cx⟩;revert h4 X V hq N;refine eY cx ?_;intro e1 h4 X V hq N;refine eK ?_;refine B0 rfl rfl rfl (λbu=>?_) (λbu=>?_);refine kR ?_;rotate_left;refine kQ (bs.out _ Ae) ?_;rintro _ bv ⟨e4,⟨⟩,bw,cy⟩;revert h4 X V hq N;refine eY cy ?_;intro e5 h4 X V hq N;refine eK ?_;refine B0 rfl rfl rfl (λbx=>?_) (λbx=>?_);refine kR ?_;rotate_left;refine eK ?_;refine Ay rfl (λcz=>?_) (λcz=>?_);refine kR ?_;rotate_left;refine Ao (Ai ?_);rotate_left
 . exact ⟨rfl,X⟩
 . exact ⟨rfl,X⟩
 . exact ⟨rfl,X⟩
 obtain ⟨bo,-,au,-⟩:=(bt.resolve_left bu).2;have c0:=(bw.resolve_left bx).2;have hw:∀e∈l,e.wf/\e.fuel<=400:=λe he=>⟨⟨(hl e he).1,(hl e he).2,by have:=(au e he).1;omega⟩,(au e he).2⟩
 clear hl bt bw HM bs;rcases Decidable.em (Jl l=0) with h0|h0
 case inr=>
  have HN:=gO (λw1 h=>fM l (λe he=>(hw e he).1) Ab rfl h0 (· < w.heap.size) a c w1 h);refine kC (HN.out _ Ae) ?_;rintro _ e6 ⟨⟨⟩,c1⟩;revert h4 X V hq N;refine eE c1 ?_;intro h4 X V hq N;refine kR ?_;all_goals exact ⟨rfl,X⟩
 have HN:=gO (λw1 h=>bC l (λe he=>(hw e he).1) Ab h0 (· < w.heap.size) a c w1 h);refine kQ (HN.out _ Ae) ?_;rintro _ bz ⟨af,b0,ak,⟨⟩,am,al,c2⟩;revert h4 X V hq N;refine eY c2 ?_;intro e7 h4 X V hq N;refine eK ?_;refine C1 (Fo Ac rfl rfl) ?_;refine eK ?_;have av:=BkAt.ltX am;obtain ⟨ba,b2⟩:=Wh h0;have hp:∀e∈l,0<=e.points/\e.points<=1000:=λe he=>by have:=(ba e he).1.2.1;omega
 have hX:=λk hk=>(show w.heap.size<=k from by have:=al k hk;have:=X.size;omega)
 obtain ⟨j,hj,b3⟩:∃j:Nat,k.tmod l.length=j/\j<l.length:=⟨(k.tmod l.length).toNat,by have:=Int.tmod_nonneg (a:=k) (b:=l.length) k0;omega,by have:=Int.tmod_nonneg (a:=k) (b:=l.length) k0;have:=Int.tmod_lt_of_pos k (b:=l.length) Ab;omega⟩;have b4:=gN b3;have ao:=ig b3;obtain ⟨kb,ko,rfl,e8,hk⟩:=mw V Ab;obtain ⟨c3,c4,c5,c6,c7,c8,rx,sx⟩:=hk j l[j] b4;clear hk HN h0;generalize l[j]=e at *;obtain ⟨a7,e9⟩:=hw e ao;have a8:=ba e ao;have fa:=(au e ao).1;have bb:=gO (λw1 h=>Zi e a7 a8 (· < w.heap.size) c3 c4 c5 c6 c7 c8 w1 h);obtain ⟨vd,bp,c9⟩:=TD b2 b4 a7.g a8 [] (s:=[97,110,110]) B7;rw [Yz rfl,jJ] at bp;obtain ⟨b5,b6,da,b7⟩:=dL b2 ao [97,110,110];unfold EX.cells at *;refine eK ?_;refine C1 (Hg Ac rfl rfl rfl (gX _ Ab)) ?_;refine eK ?_;refine C1 (LP rfl rfl Ab hj) ?_;refine eK ?_;refine xA [_,_,_,_,_,_,_,_,_,_,_,_] ?_;intro fb fc db;refine eI [_,_,_,_,_,_,_,_,_,_,_,_] db ?_;intro b8 G dc fd fe;revert am h4 X hq N V rx sx;refine eE dc ?_;intro am h4 X hq N V rx sx;refine cN (A1 [_,_,_,_,_,_,_,_,_,_,_,_] Ac rfl rfl rfl G rfl rfl rfl ?_);refine Ax (AN AU rfl (bb.out _ Ae) (λ_ _ ⟨_,_,_,_,_,_,h⟩=>⟨_,h.1⟩)) rfl ?_ aFh;rintro _ bc ⟨bd,aw,ax,ay,az,a0,⟨⟩,Y,Z,be,b9⟩;revert G am h4 X hq N V rx sx;refine eY b9 ?_;intro dm G am h4 X hq N V rx sx;refine eK ?_;refine xA [_,_,_,_,_,_] ?_;intro dn dp ca;refine eI [_,_,_,_,_,_] ca ?_;intro bf aa cb dq dr;revert Y Z G am h4 X hq N V rx sx;refine eE cb ?_;intro Y Z G am h4 X hq N V rx sx;refine eK ?_
 obtain ⟨dd,ff,⟨fg,fh,fj⟩,fk⟩:=vd;obtain rfl:dd=true:=c9;have fl:=X.size;have HS:=gO (λw1 h1 h2 h3=>NF b0 ak af l bo hw [] AK [97,110,110] e.name B7 e.g.pinv (PG.pinv_wf a7.g a8.2.1.1) (show e.g.vars.length<=4 by omega) (λb=>b8.heap.size<=b/\b<bc.heap.size) bd aw ax ay az a0 w1 h1 h2 h3 be);rw [bp] at HS;have HP:=gO (λM w1 h=>H7 M ak af l Ab hp [⟨[97,110,110],e.name,true⟩] [97,110,110] w1 h);have HA:=gO (λM w1 h=>Jj M ak af l [⟨[97,110,110],e.name,true⟩] [97,110,110] e.name w1 h);rw [b5] at HP;rw [b6] at HA;have fm:∀k,b0 k -> ¬k=b1:=λk hk e=>by have:=al k (gQ hk);omega
 clear bb rx sx bp hX;unfold PG.cells at *;refine eQ rfl (HS.out _ Ae Ae Ae) ?_;rintro _ cc ⟨fo,fp,ds,dt,du,dv,⟨⟩,aj,de,a1,cd,a2,ac,ab⟩;have dw:=ab.size;have aa:=lY aa ab (λe=>by have:=av _ (gQ e);omega);have Y:=mN Y ab (λb hb hT=>by have:=av b (gQ hT);(try dsimp only at hb);omega);have Z:=m5 Z ab (λb hb hT=>by have:=av b (gQ hT);(try dsimp only at hb);omega);have G:=lY G ab (λe=>by have:=av _ (gQ e);omega);have h4:=lY h4 ab (λe=>by have:=al _ (gQ e);omega);have X:=me X ab (λk hk=>by have:=al k (gQ hk);omega);have hq:=mN hq ab (λb hb hT=>by have:=al b (gQ hT);(try dsimp only at hb);omega);have N:=m5 N ab (λb hb hT=>by have:=al b (gQ hT);(try dsimp only at hb);omega);have V:=EXs.fr V ab (λb hb hT=>by have:=al b (gQ hT);(try dsimp only at hb);omega);refine eK ?_;refine xA [_,_,_,_,_,_] ?_;intro dx dy ah;refine Dl [_,_,_,_,_,_] Ac rfl rfl rfl rfl rfl rfl ah rfl ?_;intro bg ah;have ad:=ah.blk;dsimp only at ad;have ce:=ah.ext;have dz:=ah.pos;have d0:=ah.size;revert aj ac aa Y Z G h4 X hq N V;refine eE ce ?_;intro aj ac aa Y Z G h4 X hq N V;refine eK ?_;refine Aq (λwz=>Ext bg wz) 22 (.pure 0 (.pure 1 (.pure 2 (.pure 3 (.pure 4 (.pure 5 (.pure 6 (.pure 7 (.pure 8 (.pure 9 (.pure 10 (.pure 11 (.pure 12 (.pure 14 (.pure 15 (.fork 13 (.pure 16 (.pure 17 (.pure 18 (.pure 19 (.pure 20 (.pure 21 .tail)))))) .none)))))))))))))))) mixed AU (Aa (Aa Ag)) ?_;intro cf bh _;have ag:(λwz=>Ext bg wz) cf:=bh;simp only at ag;have a9:=ad;have a3:=G;revert ad aj ac aa Y Z G h4 X hq N V;refine eY bh ?_;intro d1 ad aj ac aa Y Z G h4 X hq N V;refine ⟨ag,?_⟩;refine Tq rfl Mv (Tq rfl V2 (Tq rfl Mv (eN rfl (Av rfl) (eN rfl (OY rfl rfl) (Tq rfl aO (Tq rfl Mv (Hk rfl rfl rfl rfl (Fj (not_not_intro rfl)) (Cb Ac rfl rfl rfl) rfl (Hk rfl rfl rfl rfl (Fj (not_not_intro rfl)) (Ap Ac rfl rfl rfl (λwz hz=>l7 (l9 a9 hz) rfl)) rfl (Hk rfl rfl rfl rfl (Fj (not_not_intro rfl)) (TH rfl) rfl (Tq rfl (Qn (not_not_intro rfl)) ?_))))))))));refine eT ?_;refine D2 rfl rfl rfl rfl (rfl) (AN AU rfl (HP.out _ _ Ae) (λ_ _ h=>⟨_,h.1⟩)) rfl ?_ aFh AC;rintro _ d2 ⟨⟨⟩,bi⟩;have d3:=bi.size;revert ag ad aj ac aa Y Z G h4 X hq N V
 refine eE bi ?_;intro ag ad aj ac aa Y Z G h4 X hq N V;refine ⟨ag,?_⟩;refine eN rfl (OY rfl rfl) (Tq rfl (BR rfl rfl rfl) (Tq rfl Mv (eN rfl (Av rfl) (eN rfl (Cb Ac rfl rfl rfl) (eN rfl (Ap Ac rfl rfl rfl (λwz hz=>l7 (l9 a3 hz) rfl)) ?_)))));refine Ar rfl (EA (cC rfl (HA.out _ _ Ae) ?_));rintro _ d4 ⟨⟨⟩,cg⟩;revert ad aj ac aa Y Z G h4 X hq N V;refine eY cg ?_;intro d5 ad aj ac aa Y Z G h4 X hq N V;refine eK ?_;simp only at ac;have ar:∀k,a1 k->bz.heap.size>k\/(bf.heap.size<=k/\k<cc.heap.size):=λk hk=>(a2 k hk).imp (λg=>av k (gQ g)) id
 have an:∀k,a1 k->bv.heap.size<=k:=λk hk=>(a2 k hk).elim (λg=>al k (gQ g)) (λg=>by omega)
 have ch:=gO (λw1 h1 h2 h3=>NF a1 ak af l bo hw [⟨[97,110,110],e.name,true⟩] AK [97,110,110] e.name B7 p br c0 (· < w.heap.size) va vc pa pc ma mc w1 h1 h2 h3 cw);have e2:=NG (es:=l) (p:=p) b7;generalize Cm l [⟨[97,110,110],e.name,true⟩] [97,110,110] e.name p=v2 at *;obtain ⟨v2,L2⟩:=v2;simp only at e2;subst e2;clear aj de cd a2 ad HS HP HA;unfold PG.cells at *;refine kQ (ch.out _ Ae Ae Ae) ?_;rintro _ d6 ⟨fq,fs,d7,d8,d9,ea,⟨⟩,df,dg,a4,ci,a5,cj,ae⟩;have aa:=lY aa ae (λe=>by have:=ar _ e;omega);have Y:=mN Y ae (λb hb hT=>by have:=ar b hT;(try dsimp only at hb);omega);have Z:=m5 Z ae (λb hb hT=>by have:=ar b hT;(try dsimp only at hb);omega);have G:=lY G ae (λe=>by have:=ar _ e;omega);have h4:=lY h4 ae (λe=>by have:=an _ e;omega);have X:=me X ae (λk hk=>by have:=an k hk;omega);have hq:=mN hq ae (λb hb hT=>by have:=an b hT;(try dsimp only at hb);omega);have N:=m5 N ae (λb hb hT=>by have:=an b hT;(try dsimp only at hb);omega);have V:=EXs.fr V ae (λb hb hT=>by have:=an b hT;(try dsimp only at hb);omega);refine cT ?_;simp only at cj;have a6:∀k,a4 k->bz.heap.size>k\/bf.heap.size<=k:=λk hk=>(a5 k hk).elim (λg=>(ar k g).imp id And.left) (λg=>by omega)
 have bq:∀k,a4 k->bv.heap.size<=k:=λk hk=>(a5 k hk).elim (λg=>an k g) (λg=>by omega)
 have ck:=gO (λw1 h1 h2 h3=>NF a4 ak af l bo hw [⟨[97,110,110],e.name,true⟩] AK [97,110,110] e.name B7 e.g.pinv (PG.pinv_wf a7.g a8.2.1.1) (show e.g.vars.length<=4 by omega) (λb=>b8.heap.size<=b/\b<bc.heap.size) bd aw ax ay az a0 w1 h1 h2 h3 be);have e3:=NG (es:=l) (p:=e.g.pinv) b7;generalize Cm l [⟨[97,110,110],e.name,true⟩] [97,110,110] e.name e.g.pinv=v3 at *;obtain ⟨v3,L3⟩:=v3;simp only at e3;subst e3;have HP:=gO (λM w1 h=>H7 M ak af l Ab hp [⟨[97,110,110],e.name,true⟩] [97,110,110] w1 h);have HA:=gO (λM w1 h=>Jj M ak af l [⟨[97,110,110],e.name,true⟩] [97,110,110] e.name w1 h);have HT:=gO (λM w1 h=>NE M ak af l [⟨[97,110,110],e.name,true⟩] AK w1 h);have HR:=gO (λS S' a a' c c' w1 h1 h2=>OW [[97,110,110]] [[97,110,110]] B7 S S' a a' c c' w1 h1 h2);rw [decide_eq_true rfl] at HR;rw [b5] at HP;rw [b6] at HA;rw [da] at HT;clear df dg ci a5 ch ar an hq N h4;unfold PG.cells at *;refine kQ (ck.out _ Ae Ae Ae) ?_;rintro _ bj ⟨ft,fu,eb,ec,ed,ee,⟨⟩,dh,di,ef,cl,cm,U,ai⟩;have aa:=lY aa ai (λe=>by have:=a6 _ e;omega);have Y:=mN Y ai (λb hb hT=>by have:=a6 b hT;(try dsimp only at hb);omega);have Z:=m5 Z ai (λb hb hT=>by have:=a6 b hT;(try dsimp only at hb);omega);have G:=lY G ai (λe=>by have:=a6 _ e;omega);have X:=me X ai (λk hk=>by have:=bq k hk;omega);have V:=EXs.fr V ai (λb hb hT=>by have:=bq b hT;(try dsimp only at hb);omega);refine cT ?_
 simp only at U;clear dh di cl cm a6 bq aa Y Z ck
 focus
  refine Aj (Aq (λwz=>Ext bj wz) 16 (.pure 0 (.pure 2 (.pure 3 (.fork 1 (.pure 4 (.pure 5 (.pure 6 (.pure 7 (.pure 8 (.fork 9 (.pure 10 (.pure 11 (.pure 12 (.pure 13 (.fork 14 (.fork 15 .tail .none) (.fork 15 (.fork 14 .tail .none) .none)))))) .none)))))) .none)))) mixed AU (Aa Ag) ?_);intro dk cn _;have O:(λwz=>Ext bj wz) dk:=cn;simp only at O;have a3:=G;revert U G X V;refine eE cn ?_;intro U G X V;refine ⟨O,?_⟩;refine eT ?_;refine tC rfl rfl (HP.out _ _ Ae) ?_;rintro _ fv ⟨⟨⟩,dl⟩;revert O U G X V;refine eE dl ?_;intro O U G X V;refine ⟨O,?_⟩;refine eT ?_;refine D2 rfl rfl rfl rfl (G6 Ab) (AN AU rfl (HA.out _ _ Ae) (λ_ _ h=>⟨_,h.1⟩)) rfl ?_ aFh AC;rintro _ eg ⟨⟨⟩,co⟩;revert O U G X V;refine eE co ?_;intro O U G X V;refine ⟨O,?_⟩;refine eT ?_;refine D2 rfl rfl rfl rfl (G6 B7) (AN AU rfl (HT.out _ _ Ae) (λ_ _ h=>h.ret)) rfl ?_ aFh ?krg13;rintro _ eh ⟨ei,ej,⟨⟩,ap,cp⟩;revert O U G X V;refine eE cp ?_;intro O U G X V;refine ⟨O,?_⟩;refine D2 rfl rfl rfl rfl (G6 B7) (xS [_]) rfl ?_ aFh AC;rintro _ ek ⟨el,rfl,bk,en⟩;have bl:=bk.blk;have cq:=bk.ext;revert ap O U G X V;refine eE cq ?_;intro ap O U G X V;refine ⟨O,?_⟩;refine Ar rfl (O5 (cC rfl (HR.out _ _ _ _ _ _ _ (NamAt.rows Ae) (Sf Ae)) ?_));rintro _ eo ⟨⟨⟩,cr⟩;revert bl ap U G X V;refine eE cr ?_;intro bl ap U G X V;refine kR ?_;rotate_left;refine D2 rfl rfl rfl rfl (G6 B7) (xS [_]) rfl ?_ aFh AC;rintro _ ep ⟨eq,rfl,bm,er⟩;have aq:=bm.blk;have ct:=bm.ext;revert O U G X V;refine eE ct ?_;intro O U G X V;refine ⟨O,?_⟩;refine D2 rfl rfl rfl rfl (G6 B7) (AN AU rfl (HT.out _ _ Ae) (λ_ _ h=>h.ret)) rfl ?_ aFh AC;rintro _ et ⟨eu,ew,⟨⟩,bn,cu⟩;revert aq O U G X V;refine eE cu ?_;intro aq O U G X V;refine ⟨O,?_⟩;refine Ar rfl (O5 (cC rfl (HR.out _ _ _ _ _ _ _ (NamAt.rows Ae) (Sf Ae)) ?_));rintro _ ex ⟨⟨⟩,cv⟩;revert bn aq U G X V;refine eE cv ?_;intro bn aq U G X V
  refine kR ?_;rotate_left
 all_goals exact ⟨rfl,X⟩
def FM:nP:=λ_=>True
def OX (W:wD) (b o:Nat):∀(len G:Nat),(∀i,i<len -> ∃(t:Nd) (M:oA) (N:Nat),t.wf/\W.cell? ⟨b,o+(G+i)*4,none⟩=some (.int .u8 t.kind)/\W.cell? ⟨b,o+(G+i)*4+1,none⟩=some (.int .i64 t.num)/\W.cell? ⟨b,o+(G+i)*4+2,none⟩=some (str t.name)/\W.cell? ⟨b,o+(G+i)*4+3,none⟩=some (.slice M t.kids.length N)/\t.sits FM W M) ->
 ∃l:List Nd,l.length=len/\CY l/\rowSits FM W l (some ⟨b,o+G*4,none⟩)
 | 0,_,_=>⟨[],rfl,by simp [CY],by simp [rowSits]⟩
 | len+1,G,h=>by
  obtain ⟨l,hl,hw,hs⟩:=OX W b o len (G+1) (λi hi=>by
   have:=h (i+1) Ab;rwa [show G+(i+1)=G+1+i from by omega] at this)
  obtain ⟨t,M,N,O,V,X,Y,Z,U⟩:=h 0 Ab;rw [jT] at V X Y Z;refine ⟨t::l,by simp [hl],by simp [CY,O,hw],?_⟩;simp only [rowSits];refine ⟨b,o+G*4,M,N,rfl,trivial,V,X,Y,Z,U,?_⟩;rwa [show o+G*4+4=o+(G+1)*4 from by omega]
def dM {W:wD} {a:Addr} (h:W.cells? 0 a 4=some cs):∃G M N O,cs=[G,M,N,O]/\W.cell? (a.add 0)=some G/\W.cell? (a.add 1)=some M/\W.cell? (a.add 2)=some N/\W.cell? (a.add 3)=some O:=by
 unfold World.cells? at h;rw [AH (ii _)] at h;rw [show jj 4=[0,1,2,3] from rfl] at h;cases e0:W.cell? (a.add 0)<;>simp [e0] at h
 cases e1:W.cell? (a.add 1)<;>simp [e1] at h
 cases e2:W.cell? (a.add 2)<;>simp [e2] at h
 cases e3:W.cell? (a.add 3)<;>simp [e3] at h
 exact ⟨_,_,_,_,h.symm,rfl,rfl,rfl,rfl⟩
def Wj (b o n m:Nat):((⟨b,o,none⟩:Addr).add n).add m=⟨b,o+n+m,none⟩:=by
 unfold jA;by_cases h:n=0<;>by_cases G:m=0<;>simp [h,G]
def IF:prog.cellsOf 29=4:=by kernel_rfl
def YB:prog.cellsOf 5=1:=by kernel_rfl
def P6:prog.cellsOf 3=1:=by kernel_rfl
def P7:prog.cellsOf 9=1:=by kernel_rfl
def aI:prog.cellsOf 27=1:=by kernel_rfl
abbrev K7 {H:Type} (enc:TypeId×Value->H) (W:wD) (sp:Nat->Bool) (n t:Nat) (l:lV) (i:Nat) (x:DataW H×List MemPlace):Prop:=DataW.trod enc prog W 0 sp true n t ((l.drop i).take (prog.cellsOf t))=some x
def Kw (enc:TypeId×Value->H) (W:wD) (sp:Nat->Bool) (N:Nat):∀(M:Nat),M<N -> ∀(cs:lV) (x:DataW H×List MemPlace),DataW.trod enc prog W 0 sp true M 29 cs=some x ->
 ∃(t:Nd) (a:oA) (c:Nat),cs=[.int .u8 t.kind,.int .i64 t.num,str t.name,.slice a t.kids.length c]/\t.wf/\t.sits FM W a:=by
 induction N with
 | zero=>intro M h;omega
 | succ N ih=>
  intro M hN cs x h;obtain ⟨xs,n,rfl,-,hl,ad,hf⟩:=kx underlying29 h;rw [IF] at hl;obtain ⟨Z,c1,c2,c3,rfl⟩:∃Z c1 c2 c3,cs=[Z,c1,c2,c3]:=by
   rcases cs with _|⟨Z,_|⟨c1,_|⟨c2,_|⟨c3,_|⟨c4,cs⟩⟩⟩⟩⟩
   . simp at hl
   . simp at hl
   . simp at hl
   . simp at hl
   . exact ⟨_,_,_,_,rfl⟩
   . simp at hl
  obtain ⟨y0,y1,y2,y3,rfl⟩:∃y0 y1 y2 y3,xs=[y0,y1,y2,y3]:=by
   have G:xs.length=4:=ad;rcases xs with _|⟨Z,_|⟨c1,_|⟨c2,_|⟨c3,_|⟨c4,cs⟩⟩⟩⟩⟩
   . simp at G
   . simp at G
   . simp at G
   . simp at G
   . exact ⟨_,_,_,_,rfl⟩
   . simp at G
  . have f0:K7 enc W sp n 5 [Z,c1,c2,c3] 0 y0:=hf 0 _ rfl;have f1:K7 enc W sp n 3 [Z,c1,c2,c3] 1 y1:=hf 1 _ rfl;have f2:K7 enc W sp n 9 [Z,c1,c2,c3] 2 y2:=hf 2 _ rfl;have f3:K7 enc W sp n 27 [Z,c1,c2,c3] 3 y3:=hf 3 _ rfl;simp only [YB,P6,P7,aI,K7,jE,jY,ja,kg] at f0 f1 f2 f3;obtain ⟨k,hk,-,wk⟩:=lm (show prog.underlying 5=some (.int .u8) by kernel_rfl) f0;obtain ⟨m,hm,-,wm⟩:=lm underlying3 f1;obtain ⟨s,hs,-,ws⟩:=lr (show prog.underlying 9=some .string by kernel_rfl) f2;simp only [iT,and_true] at hk hm hs;subst hk hm hs;have O:0<=k/\k<=255:=by simpa [Lit.wf,IntKind.min,IntKind.max,IntKind.signed,IntKind.bits] using wk
    have U : -9223372036854775808<=m/\m<=9223372036854775807:=by simpa [Lit.wf,IntKind.min,IntKind.max,IntKind.signed,IntKind.bits] using wm
    have ab:s.data.toList.length<=9223372036854775807:=by
     have:s.data.toList.length=s.size:=by rw [ju];rfl
     unfold maxLen at ws;omega
    rcases lR underlying27 f3 with ⟨hc,-⟩|⟨a,len,cap,V,rest,n',ak,hc,-,-,al,ag,am,hE,-⟩
    . simp only [iT,and_true] at hc;subst hc;exact ⟨.mk k m s.data.toList [],none,0,rfl,⟨O.1,O.2,U.1,U.2,ab,AK,by simp [CY]⟩,by simp [Nd.sits,rowSits]⟩
    . simp only [iT,and_true] at hc;subst hc;rw [IF] at hE;rcases lK len with h0|ae
      . subst h0;exact ⟨.mk k m s.data.toList [],some a,cap,rfl,⟨O.1,O.2,U.1,U.2,ab,AK,by simp [CY]⟩,by simp [Nd.sits,rowSits]⟩
      . have step:∀i,i<len -> ∃(t:Nd) (a':oA) (c':Nat),t.wf/\W.cell? ((a.add (i*4)).add 0)=some (.int .u8 t.kind)/\W.cell? ((a.add (i*4)).add 1)=some (.int .i64 t.num)/\W.cell? ((a.add (i*4)).add 2)=some (str t.name)/\W.cell? ((a.add (i*4)).add 3)=some (.slice a' t.kids.length c')/\t.sits FM W a':=by
         intro i hi;have X:=hE i hi;cases hc4:W.cells? 0 (a.add (i*4)) 4 with
         | none=>
          rw [hc4] at X;have hh:V[i]? = some V[i]:=gN Ab;rw [hh] at X;simp at X
         | some an=>
          rw [hc4,gN Ab] at X;obtain ⟨d0,d1,d2,d3,rfl,Y,e1,e2,e3⟩:=dM hc4;obtain ⟨t,a',c',af,hw,hs⟩:=ih n' Ab _ _ X;simp only [iT,and_true] at af;obtain ⟨rfl,rfl,rfl,rfl⟩:=af;exact ⟨t,a',c',hw,Y,e1,e2,e3,hs⟩
        obtain ⟨b,o,aa⟩:=a;have ac:aa=none:=by
         obtain ⟨t,a',c',-,Y,-⟩:=step 0 ae;simp only [kZ,jA,if_true] at Y;unfold World.cell? at Y;cases aa with
         | none=>rfl
         | some q=>simp at Y;split at Y<;>simp at Y
        subst ac;obtain ⟨l,ah,ai,aj⟩:=OX W b o len 0 (λi hi=>by
         obtain ⟨t,a',c',hw,Y,e1,e2,e3,hs⟩:=step i hi;rw [Wj] at Y e1 e2 e3;rw [iY];exact ⟨t,a',c',hw,Y,e1,e2,e3,hs⟩)
        subst ah;refine ⟨.mk k m s.data.toList l,some ⟨b,o,none⟩,cap,rfl,⟨O.1,O.2,U.1,U.2,ab,by unfold maxLen at ag;omega,ai⟩,?_⟩;simpa [Nd.sits] using aj
def Wk {W:wD} {p:Addr} {k:Nat} (h:W.cells? 0 p k=some cs):Row W p cs/\cs.length=k:=by
 unfold World.cells? at h;rw [AH (ii _)] at h;refine ⟨λi v G=>?_,by simpa using mapM_some_length h⟩;have O:cs.length=k:=by simpa using mapM_some_length h
 have M:i<k:=by
  rcases it i cs.length with N|N
  . omega
  . rw [ic N] at G;cases G
 have:=mapM_some_get h i i (by simp [M]);rw [G] at this;exact this
def YC (b o i:Nat):(⟨b,o,none⟩:Addr).add i=⟨b,o+i,none⟩:=by unfold jA;by_cases h:i=0<;>simp [h]
def LG {α:Type} (enc:TypeId×Value->H) (W:wD) (sp:Nat->Bool) {t e k:Nat} (ht:prog.underlying t=some (.slice e)) (hk:prog.cellsOf e=k) (ac:0<k) (G:lV->α->Prop) {N:Nat} (hG:∀(n:Nat) (cs:lV) (x:DataW H×List MemPlace),n<N->DataW.trod enc prog W 0 sp true n e cs=some x -> ∃y,G cs y) {x:DataW H×List MemPlace} (h:DataW.trod enc prog W 0 sp true N t [c]=some x) :
 ∃(l:List α) (a:oA) (cap:Nat),c = .slice a l.length cap/\l.length<=9223372036854775807/\Arr FM k (λw b o y=> ∃cs,Row w ⟨b,o,none⟩ cs/\G cs y) W l a:=by
 rcases lR ht h with ⟨V,-⟩|⟨a,len,cap,aa,rest,n',ad,V,-,-,ae,ab,af,hE,-⟩
 . simp only [iT,and_true] at V;exact ⟨[],none,0,V,AK,gP rfl⟩
 . simp only [iT,and_true] at V;rw [hk] at hE;unfold maxLen at ab;rcases lK len with h0|X
   . subst h0;exact ⟨[],some a,cap,V,AK,gP rfl⟩
   . have step:∀i,i<len -> ∃y cs,Row W (a.add (i*k)) cs/\cs.length=k/\G cs y:=λi hi=>by
      have M:=hE i hi;cases hc4:W.cells? 0 (a.add (i*k)) k with
      | none=>
       rw [hc4,gN Ab] at M;simp at M
      | some cs=>
       rw [hc4,gN Ab] at M;obtain ⟨r1,r2⟩:=Wk hc4;obtain ⟨y,hy⟩:=hG n' cs _ Ab M;exact ⟨y,cs,r1,r2,hy⟩
     obtain ⟨b,o,Y⟩:=a;have O:Y=none:=by
      obtain ⟨y,cs,r,hl,-⟩:=step 0 X;simp only [kZ,jA,if_true] at r;cases cs with
      | nil=>simp at hl;omega
      | cons v vs=>
       have:=r 0 v rfl;simp only [jA,if_true] at this;exact Ux this
     subst O;have hl:∃l:List α,l.length=len /\ ∀i y,l[i]? = some y -> ∃cs,Row W ⟨b,o+i*k,none⟩ cs/\G cs y:=by
      have key:∀m,m<=len -> ∃l:List α,l.length=m /\ ∀i y,l[i]? = some y -> ∃cs,Row W ⟨b,o+i*k,none⟩ cs/\G cs y:=by
       intro m
       induction m with
       | zero=>intro _;exact ⟨[],rfl,AK⟩
       | succ m ih=>
        intro hm;obtain ⟨l,Z,h2⟩:=ih Ab;obtain ⟨y,cs,r,-,hg⟩:=step m Ab;rw [YC] at r;refine ⟨l++[y],by simp [Z],λi z U=>?_⟩;rcases it i m with hi|hi
        . rw [gW Ab] at U;exact h2 i z U
        . rw [ik Ab] at U;obtain rfl:i=m:=by
           rcases it m i with h'|h'
           . rw [ic (by simp;omega)] at U;cases U
           . omega
          simp [Z] at U;subst U;exact ⟨cs,r,hg⟩
      exact key len (ip _)
     obtain ⟨l,Z,h2⟩:=hl;subst Z;exact ⟨l,some ⟨b,o,none⟩,cap,V,Ab,gQ ⟨b,o,rfl,trivial,h2⟩⟩
def fN (h:cs.length=3):∃a b c,cs=[a,b,c]:=by
 rcases cs with _|⟨a,_|⟨b,_|⟨c,_|⟨d,r⟩⟩⟩⟩<;>simp at h;exact ⟨a,b,c,rfl⟩
def aJ (h:cs.length=6):∃a b c d e f,cs=[a,b,c,d,e,f]:=by
 rcases cs with _|⟨a,_|⟨b,_|⟨c,_|⟨d,_|⟨e,_|⟨f,_|⟨g,r⟩⟩⟩⟩⟩⟩⟩<;>simp at h;exact ⟨a,b,c,d,e,f,rfl⟩
def BN {α:Type} {xs:List α} {n i:Nat} (h:xs.length=n) (G:i<n):∃y,xs[i]? = some y:=⟨xs[i],gN Ab⟩
def gB:prog.cellsOf 77=3:=by kernel_rfl
def fO:prog.cellsOf 25=1:=by kernel_rfl
def gC:prog.cellsOf 116=6:=by kernel_rfl
def gy:prog.cellsOf 26=1:=by kernel_rfl
def gD:prog.cellsOf 31=6:=by kernel_rfl
section
variable (enc:TypeId×Value->H) (W:wD) (sp:Nat->Bool)
def TF {x:DataW H×List MemPlace} (h:DataW.trod enc prog W 0 sp true M 77 cs=some x):∃v:VD,cs=v.cells/\v.wf:=by
 obtain ⟨xs,n,rfl,-,hl,G,U⟩:=kx underlying77 h;rw [gB] at hl;obtain ⟨V,X,Y,rfl⟩:=fN hl;obtain ⟨y0,e0⟩:=BN (i:=0) G B7;obtain ⟨y1,e1⟩:=BN (i:=1) G B7;obtain ⟨y2,e2⟩:=BN (i:=2) G B7;have f0:K7 enc W sp n 9 [V,X,Y] 0 y0:=(U 0 _ rfl).trans e0;have f1:K7 enc W sp n 5 [V,X,Y] 1 y1:=(U 1 _ rfl).trans e1;have f2:K7 enc W sp n 3 [V,X,Y] 2 y2:=(U 2 _ rfl).trans e2;simp only [YB,P6,P7,K7,jE,jY,ja,kg] at f0 f1 f2;obtain ⟨s,hs,-,ws⟩:=lr E8 f0;obtain ⟨k,hk,-,wk⟩:=lm (show prog.underlying 5=some (.int .u8) by kernel_rfl) f1;obtain ⟨m,hm,-,wm⟩:=lm underlying3 f2;simp only [iT,and_true] at hk hm hs;subst hk hm hs;have N:0<=k/\k<=255:=by simpa [Lit.wf,IntKind.min,IntKind.max,IntKind.signed,IntKind.bits] using wk
 have O : -9223372036854775808<=m/\m<=9223372036854775807:=by simpa [Lit.wf,IntKind.min,IntKind.max,IntKind.signed,IntKind.bits] using wm
 have Z:s.data.toList.length<=9223372036854775807:=by
  have:s.data.toList.length=s.size:=by rw [ju];rfl
  unfold maxLen at ws;omega
 exact ⟨⟨s.data.toList,k,m⟩,rfl,Z,N.1,N.2,O.1,O.2⟩
end
def Kx {α:Type} (enc:TypeId×Value->H) (W:wD) (sp:Nat->Bool) {t e k:Nat} (X:prog.underlying t=some (.slice e)) (Z:prog.cellsOf e=k) (O:0<k) (G:lV->α->Prop) (hG:∀(n:Nat) (cs:lV) (x:DataW H×List MemPlace),n<M->DataW.trod enc prog W 0 sp true n e cs=some x -> ∃y,G cs y) {x:DataW H×List MemPlace} (h:DataW.trod enc prog W 0 sp true M t [c]=some x) :
 ∃(l:List α) (a:oA) (cap:Nat),c = .slice a l.length cap/\l.length<=9223372036854775807/\Arr FM k (λw b o y=> ∃cs,Row w ⟨b,o,none⟩ cs/\G cs y) W l a/\l.length<=cap:=by
 obtain ⟨l,a,cap,U,h2,h3⟩:=LG enc W sp X Z O G hG h;refine ⟨l,a,cap,U,h2,h3,?_⟩;rcases lR X h with ⟨N,-⟩|⟨a',len,Y,V,rest,n',aa,N,-,-,ab,-⟩
 . simp only [iT,and_true] at N;rw [U] at N;simp only [iK] at N;omega
 . simp only [iT,and_true] at N;rw [U] at N;simp only [iK] at N;omega
section
variable (enc:TypeId×Value->H) (W:wD) (sp:Nat->Bool)
def Ky {x:DataW H×List MemPlace} (h:DataW.trod enc prog W 0 sp true M 25 [c]=some x) :
 ∃(l:List VD) (a:oA) (cap:Nat),c = .slice a l.length cap/\l.length<=9223372036854775807/\(∀v∈l,v.wf)/\VDs FM W l a/\l.length<=cap:=by
 obtain ⟨l,a,cap,O,U,G,V⟩:=Kx (α:=VD) enc W sp underlying25 gB B7 (λcs v=>cs=v.cells/\v.wf) (λn cs x _ X=>TF enc W sp X) h;refine ⟨l,a,cap,O,U,λv N=>?_,G.mono aFh (λb o v _ _ ⟨cs,r,e,_⟩=>by subst e;exact r),V⟩;rcases G with rfl|⟨b,o,-,-,Y⟩
 . cases N
 . obtain ⟨i,Z,rfl⟩:=List.mem_iff_getElem.1 N;obtain ⟨cs,-,-,hw⟩:=Y i _ (gN Z);exact hw
def Sg {x:DataW H×List MemPlace} (h:DataW.trod enc prog W 0 sp true M 116 cs=some x):∃p:PD,(∃U V X Y,cs=p.cells U V X Y/\VDs FM W p.params U/\p.body.sits FM W X/\p.params.length<=V)/\p.wf:=by
 obtain ⟨xs,n,rfl,-,hl,G,Z⟩:=kx underlying116 h;rw [gC] at hl;obtain ⟨c0,c1,c2,c3,c4,c5,rfl⟩:=aJ hl;obtain ⟨y0,e0⟩:=BN (i:=0) G B7;obtain ⟨y1,e1⟩:=BN (i:=1) G B7;obtain ⟨y2,e2⟩:=BN (i:=2) G B7;have f0:K7 enc W sp n 9 [c0,c1,c2,c3,c4,c5] 0 y0:=(Z 0 _ rfl).trans e0;have f1:K7 enc W sp n 25 [c0,c1,c2,c3,c4,c5] 1 y1:=(Z 1 _ rfl).trans e1;have f2:K7 enc W sp n 29 [c0,c1,c2,c3,c4,c5] 2 y2:=(Z 2 _ rfl).trans e2;simp only [fO,P7,IF,K7,jE,jY,ja,kg] at f0 f1 f2;obtain ⟨s,hs,-,ws⟩:=lr E8 f0;obtain ⟨l,U,V,hc,aa,ab,ac,ad⟩:=Ky enc W sp f1;obtain ⟨t,X,Y,N,hw,O⟩:=Kw enc W sp (n+1) n Ab _ _ f2;simp only [iT,and_true] at hs N;obtain ⟨rfl,rfl,rfl,rfl⟩:=N;subst hs hc;have ae:s.data.toList.length<=9223372036854775807:=by
  have:s.data.toList.length=s.size:=by rw [ju];rfl
  unfold maxLen at ws;omega
 exact ⟨⟨s.data.toList,l,t⟩,⟨U,V,X,Y,rfl,ac,O,ad⟩,ae,aa,ab,hw⟩
def pg_of_trodR {x:DataW H×List MemPlace} (h:DataW.trod enc prog W 0 sp true M 31 cs=some x):∃(g:PG) (va:oA) (vc:Nat) (G:oA) (N:Nat) (ma:oA) (mc:Nat),cs=g.cells va vc G N ma mc/\g.wf/\g.sits FM W va G ma/\PDsC FM W g.procs G/\g.vars.length<=vc:=by
 obtain ⟨xs,n,rfl,-,hl,U,hf⟩:=kx underlying31 h;rw [gD] at hl;obtain ⟨c0,c1,c2,c3,c4,c5,rfl⟩:=aJ hl;obtain ⟨y0,e0⟩:=BN (i:=0) U B7;obtain ⟨y1,e1⟩:=BN (i:=1) U B7;obtain ⟨y2,e2⟩:=BN (i:=2) U B7;have f0:K7 enc W sp n 25 [c0,c1,c2,c3,c4,c5] 0 y0:=(hf 0 _ rfl).trans e0;have f1:K7 enc W sp n 26 [c0,c1,c2,c3,c4,c5] 1 y1:=(hf 1 _ rfl).trans e1;have f2:K7 enc W sp n 29 [c0,c1,c2,c3,c4,c5] 2 y2:=(hf 2 _ rfl).trans e2;simp only [fO,gy,IF,K7,jE,jY,ja,kg] at f0 f1 f2;obtain ⟨l,va,vc,hc,ab,ac,ad,ae⟩:=Ky enc W sp f0;obtain ⟨ps,G,N,hp,af,V⟩:=LG (α:=PD) enc W sp underlying26 gC B7 (λcs p=>(∃G N O X,cs=p.cells G N O X/\VDs FM W p.params G/\p.body.sits FM W O/\p.params.length<=N)/\p.wf) (λn cs x _ hx=>Sg enc W sp hx) f1;obtain ⟨t,O,X,Y,hw,Z⟩:=Kw enc W sp (n+1) n Ab _ _ f2;simp only [iT,and_true] at Y;obtain ⟨rfl,rfl,rfl,rfl⟩:=Y;subst hc hp;have aa:PDsC FM W ps G:=V.mono aFh (λb o p _ _ ⟨cs,r,⟨G,N,O,X,e,h1,h2,h3⟩,_⟩=>by
  subst e;exact ⟨G,N,O,X,r,h1,h2,h3⟩)
 refine ⟨⟨l,ps,t⟩,va,vc,G,N,O,X,rfl,⟨ab,af,ac,λp hp=>?_,hw⟩,⟨ad,aa.pds,Z⟩,aa,ae⟩;rcases V with rfl|⟨b,o,-,-,hh⟩
 . cases hp
 . obtain ⟨i,hi,rfl⟩:=List.mem_iff_getElem.1 hp;obtain ⟨cs,-,-,hw⟩:=hh i _ (gN hi);exact hw
end
section
variable (enc:TypeId×Value->H) (W:wD) (sp:Nat->Bool)
def Ut:prog.cellsOf 34=3:=by kernel_rfl
def YD:prog.cellsOf 36=12:=by kernel_rfl
def dN (h:cs.length=12):∃a b c d e f G M N O U f',cs=[a,b,c,d,e,f,G,M,N,O,U,f']:=by
 obtain ⟨a,b,c,d,e,f,V⟩:=aJ (cs:=cs.take 6) (by rw [iO];omega);obtain ⟨G,M,N,O,U,f',X⟩:=aJ (cs:=cs.drop 6) (by rw [kd];omega);refine ⟨a,b,c,d,e,f,G,M,N,O,U,f',?_⟩;rw [<-iX 6 cs,V,X];rfl
def Ex {x:DataW H×List MemPlace} (h:DataW.trod enc prog W 0 sp true M 3 [c]=some x):∃m:Int,c = .int .i64 m /\ -9223372036854775808<=m/\m<=9223372036854775807:=by
 obtain ⟨m,G,-,N⟩:=lm underlying3 h;simp only [iT,and_true] at G;exact ⟨m,G,by simpa [Lit.wf,IntKind.min,IntKind.max,IntKind.signed,IntKind.bits] using N⟩
def P8 {x:DataW H×List MemPlace} (h:DataW.trod enc prog W 0 sp true M 34 cs=some x) :
 ∃b:BoxV,cs=[.int .i64 b.v,.int .i64 b.l,.int .i64 b.i]/\(-9223372036854775808<=b.v/\b.v<=9223372036854775807)/\(-9223372036854775808<=b.l/\b.l<=9223372036854775807) /\ -9223372036854775808<=b.i/\b.i<=9223372036854775807:=by
 obtain ⟨xs,n,rfl,-,Y,G,N⟩:=kx underlying34 h;rw [Ut] at Y;obtain ⟨O,U,V,rfl⟩:=fN Y;obtain ⟨y0,e0⟩:=BN (i:=0) G B7;obtain ⟨y1,e1⟩:=BN (i:=1) G B7;obtain ⟨y2,e2⟩:=BN (i:=2) G B7;have Z:K7 enc W sp n 3 [O,U,V] 0 y0:=(N 0 _ rfl).trans e0;have f1:K7 enc W sp n 3 [O,U,V] 1 y1:=(N 1 _ rfl).trans e1;have f2:K7 enc W sp n 3 [O,U,V] 2 y2:=(N 2 _ rfl).trans e2;simp only [P6,K7,jE,jY,ja,kg] at Z f1 f2;obtain ⟨v,rfl,hv⟩:=Ex enc W sp Z;obtain ⟨l,rfl,X⟩:=Ex enc W sp f1;obtain ⟨i,rfl,hi⟩:=Ex enc W sp f2;exact ⟨⟨v,l,i⟩,rfl,hv,X,hi⟩
def P9 {x:DataW H×List MemPlace} (h:DataW.trod enc prog W 0 sp true M 36 cs=some x) :
 ∃(e:EX) (va:oA) (vc:Nat) (pa:oA) (pc:Nat) (ma:oA) (mc:Nat),cs=e.cells va vc pa pc ma mc/\(e.name.length<=9223372036854775807/\e.g.wf)/\e.sits FM W va pa ma vc:=by
 obtain ⟨xs,n,rfl,-,hl,G,N⟩:=kx underlying36 h;rw [YD] at hl;obtain ⟨O,U,V,X,Y,Z,c6,c7,c8,c9,ca,cb,rfl⟩:=dN hl;obtain ⟨y0,e0⟩:=BN (i:=0) G B7;obtain ⟨y1,e1⟩:=BN (i:=1) G B7;obtain ⟨y2,e2⟩:=BN (i:=2) G B7;obtain ⟨y3,e3⟩:=BN (i:=3) G B7;obtain ⟨y4,e4⟩:=BN (i:=4) G B7;have f0:K7 enc W sp n 9 [O,U,V,X,Y,Z,c6,c7,c8,c9,ca,cb] 0 y0:=(N 0 _ rfl).trans e0;have f1:K7 enc W sp n 3 [O,U,V,X,Y,Z,c6,c7,c8,c9,ca,cb] 1 y1:=(N 1 _ rfl).trans e1;have f2:K7 enc W sp n 3 [O,U,V,X,Y,Z,c6,c7,c8,c9,ca,cb] 2 y2:=(N 2 _ rfl).trans e2;have f3:K7 enc W sp n 34 [O,U,V,X,Y,Z,c6,c7,c8,c9,ca,cb] 3 y3:=(N 3 _ rfl).trans e3;have f4:K7 enc W sp n 31 [O,U,V,X,Y,Z,c6,c7,c8,c9,ca,cb] 6 y4:=(N 4 _ rfl).trans e4;simp only [P6,P7,Ut,gD,K7,jE,jY,ja,kg] at f0 f1 f2 f3 f4;obtain ⟨s,hs,-,ws⟩:=lr E8 f0;obtain ⟨po,rfl,hp⟩:=Ex enc W sp f1;obtain ⟨fu,rfl,hu⟩:=Ex enc W sp f2;obtain ⟨b,hb,af,ag,ah⟩:=P8 enc W sp f3;obtain ⟨g,va,vc,pa,pc,ma,mc,hg,ab,aa,ac,ad⟩:=pg_of_trodR enc W sp f4;simp only [iT,and_true] at hs hb;obtain ⟨rfl,rfl,rfl⟩:=hb;subst hs;unfold PG.cells at hg
 simp only [iT,and_true] at hg;obtain ⟨rfl,rfl,rfl,rfl,rfl,rfl⟩:=hg;have ae:s.data.toList.length<=9223372036854775807:=by
  have:s.data.toList.length=s.size:=by rw [ju];rfl
  unfold maxLen at ws;omega
 exact ⟨⟨s.data.toList,po,fu,b,g⟩,va,vc,pa,pc,ma,mc,rfl,⟨ae,ab⟩,aa,ac,ad⟩
end
def NP (enc:TypeId×Value->H) (W:wD) (sp:Nat->Bool) {x:DataW H×List MemPlace} (h:DataW.trod enc prog W 0 sp true M 23 [c]=some x) :
 ∃(l:List EX) (a:oA) (cap:Nat),c = .slice a l.length cap/\l.length<=9223372036854775807/\l.length<=cap/\(∀e∈l,e.name.length<=9223372036854775807/\e.g.wf)/\EXs FM W l a:=by
 obtain ⟨l,a,cap,Z,h2,X,h4⟩:=Kx (α:=EX) enc W sp underlying23 YD B7 (λcs e=> ∃G vc N U O V,cs=e.cells G vc N U O V/\(e.name.length<=9223372036854775807/\e.g.wf)/\e.sits FM W G N O vc) (λn cs x _ hx=>P9 enc W sp hx) h;refine ⟨l,a,cap,Z,h2,h4,λe Y=>?_,X.mono aFh (λb o e _ _ ⟨cs,r,G,vc,N,U,O,V,k,_,s⟩=>by subst k;exact ⟨G,vc,N,U,O,V,r,s⟩)⟩;rcases X with rfl|⟨b,o,-,-,hh⟩
 . cases Y
 . obtain ⟨i,hi,rfl⟩:=List.mem_iff_getElem.1 Y;obtain ⟨cs,-,G,vc,N,U,O,V,-,k1,-⟩:=hh i _ (gN hi);exact k1
def exs_of_trodZ (enc:TypeId×Value->H) (W:wD) {r:Reach} {N:Nat} {v:Value} {d:DataW H} {ps:List MemPlace} {sp:Nat->Bool} (G:Value.okWide prog W r N 23 v) (h:DataW.Trod enc prog W 0 sp true 23 v d ps) :
 ∃(l:List EX) (a:oA) (c:Nat),v = .slice a l.length c/\l.length<=9223372036854775807/\l.length<=c/\(∀e∈l,e.name.length<=9223372036854775807/\e.g.wf)/\EXs FM W l a:=by
 obtain ⟨a0,len,cap,rfl⟩:=Go.WideShapes.okWide_slice underlying23 G;obtain ⟨M,O⟩:=h;exact NP enc W sp O
end Bk
namespace Bk
open Go Go.RowKit Go.Proofs
def Solves_d (l:List EX) (a:oA) (c:Nat) (n:Int) (p:PG) (G:oA) (vc:Nat) (h:oA) (U:Nat) (M:oA) (V:Nat) (w:wD) (_:l.length<=9223372036854775807) (_:l.length<=c) (X:∀e∈l,e.name.length<=9223372036854775807/\e.g.wf) (Y:EXs FM w l a) (Z:0<=n) (h1:n<=255) (hp:p.wf) (hq:p.sits FM w G h M) (N:PDsC FM w p.procs h) (O:p.vars.length<=vc) :
 Calls prog 9 #[.slice a l.length c,.int .u8 n,.agg (p.cells G vc h U M V).toArray] w λe w'=>e = .returned (.bool true)/\Ext w w':=TE l n Z h1 p hp X FM FM a c G vc h U M V w Y hq N O
end Bk
