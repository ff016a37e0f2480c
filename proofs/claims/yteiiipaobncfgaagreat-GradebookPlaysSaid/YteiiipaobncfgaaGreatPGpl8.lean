/- Texts that the proofs of GradebookPlays need. No condition. (Part 8 of 9.) -/
import Derived.Test.YteiiipaobncfgaaGreatPGpl7
set_option linter.unusedSimpArgs false
set_option linter.unusedVariables false
set_option linter.defProp false
set_option maxRecDepth 100000
set_option maxHeartbeats 4000000
open Go.Proofs.Tryz
open Or renaming inl->gA,inr->gB
open Go.Result renaming andThen->gF
open Go renaming Calls->gS
open Except renaming bind->gZ
open Go.Value renaming slice->iA,int->iV,ownBlock->kw
open Nat renaming blt->iC,ble->jW,beq->kk
open Go.Region renaming ready->iH,binds->jM
open List renaming replicate->iK,range->jQ
open Go.DataW renaming trod->iQ
open Go.Builtin renaming zeroCells->jI
open Go.Addr renaming add->jY
open Go.Oper renaming wp->km
open Array renaming replicate->kn
open Go.IntKind renaming wrap->kN
open Go.Sem renaming run->kV
open Bk.EX renaming cells->mZ
open Bk.VdV renaming zero->m5
namespace Bk
open Go Go.RowKit Go.Proofs
attribute [local irreducible] Go.Calls
variable {G:Nat} {w w':wD} {S:nP} {e:Ending} {es:List EX} {xs:List Bf} {a:oA} {n:Bf}
noncomputable def BD (es:List EX) (L:List AtV) (s n:Bf) (p:PG):(VdV×Int)×List AtV:=
 if Cl s=true then match Rk es n with
  | none=>((m5,21),L)
  | some i=>match es[i]? with
   | none=>((m5,21),L)
   | some e=>if (BL e p).2≠0 then ((m5,(BL e p).2),L) else (((BL e p).1,0),Hi L s n (BL e p).1.ok)
 else ((m5,3),L)
def SubR (M X:nP) (bb:Nat) (es:List EX) (r:(VdV×Int)×List AtV) (w:wD):Ending->wD->Prop:=λe w'=> ∃a c ta tc oa oc,e = .returned (.tuple #[.agg (r.1.1.row a c ta tc oa oc).toArray,.int .i64 r.1.2])/\r.1.1.st.sits (λb=>w.heap.size<=b/\b<w'.heap.size) w' a ta oa/\r.1.1.st.small /\
 ∃M':nP,(∀k,M k->M' k)/\(∀k,M' k->M k\/(w.heap.size<=k/\k<w'.heap.size))/\BkAt M' X w' bb es r.2/\Fr M w w'
def SubR.ret {X:nP} {r:(VdV×Int)×List AtV} (h:SubR S X G es r w e w'):∃v,e = .returned v:=by
 obtain ⟨_,_,_,_,_,_,h,-⟩:=h;exact ⟨_,h⟩
def Ij {X:nP} {L:List AtV} {v:VdV} {k:Int} {ta oa:oA} {c N O:Nat} (U:BkAt S X w G es L) (x:Ext w w') (V:v.st.sits (λb=>w.heap.size<=b/\b<w'.heap.size) w' a ta oa) (Y:v.st.small) :
 SubR S X G es ((v,k),L) w (.returned (.tuple #[.agg (v.row a c ta N oa O).toArray,.int .i64 k])) w':=
 ⟨a,c,ta,N,oa,O,rfl,V,Y,S,λ_ h=>h,λ_ h=>gA h,U.ext x,mt x⟩
def JM {i:Nat} (h:Rk es n=some i):∃e,es[i]? = some e/\e.name=n/\Fw es n=i:=by
 have G:=h;unfold Rk at h;obtain ⟨M,N,-⟩:=List.findIdx?_eq_some_iff_getElem.1 h;exact ⟨_,fY M,by simpa using N,by unfold Fw;rw [G]⟩
set_option maxHeartbeats 8000000 in
def Q7 (M X:nP) (bb:Nat) (es:List EX) (ao:es.length<=1000) (L:List AtV) (s n:Bf) (ad:s.length<=9223372036854775807) (p:PG) (ae:Cl s=false\/Rk es n=none) (va:oA) (vc:Nat) (pa:oA) (pc:Nat) (ma:oA) (mc:Nat) (w:wD) (hb:BkAt M X w bb es L) :
 Calls prog 14 #[.pointer (some ⟨bb,0,none⟩),str s,str n,.agg (p.cells va vc pa pc ma mc).toArray] w (SubR M X bb es (BD es L s n p) w):=by
 have G:=Ne w;have HB:=fZ hb;obtain ⟨ea,ec,r,V,h2,Y,-,-,-⟩:=hb;have HN:=fZ (λw1=>IM s w1 ad);have HF:=fZ (λw1 h h2=>OO bb es Ab n X ea ec (.map (some r)) w1 h rfl h2);cases hq:Cl s
 . have hv:BD es L s n p=((m5,3),L):=by unfold BD;rw [AC (by simp [hq])]
   rw [hv];rw [hq] at HN;refine Ad func14 ntmps14 rfl rfl (cS (eB [_,_,_,_,_,_] ?_));intro b1 w2 _ x5 p6 z7;have G:=G.ext x5;refine eA [_,_,_,_,_,_] ?_;intro b8 w9 U af ap aq;have G:=G.ext af;refine eK ?_;refine C1 (Fa Ac rfl rfl) (kC (HN.out _) ?_);rintro _ ar ⟨⟨⟩,ag⟩;revert U G;refine eE ag ?_;intro U G;refine eK ?_;refine C1 (xB [_,_,_,_,_,_]) (eS [_,_,_,_,_,_] U ?_);intro au av f21 _;have G:=G.fr f21 Ab;refine eK ?_;refine Df rfl Ac rfl rfl rfl Af rfl rfl ?_;exact Ij (v:=m5) HB.out G Ec DI
 . have O:=ae.resolve_left (by simp [hq]);have hv:BD es L s n p=((m5,21),L):=by unfold BD;rw [AT hq,O]
   have hi:Fw es n = -1:=by unfold Fw;rw [O]
   rw [hv];rw [hq] at HN;rw [hi] at HF;refine Ad func14 ntmps14 rfl rfl (cS (eB [_,_,_,_,_,_] ?_));intro aw ax _ ah ay az;revert G V Y;refine eE ah ?_;intro G V Y;refine eA [_,_,_,_,_,_] ?_;intro a0 a1 N Z ai aj;revert G V Y;refine eE Z ?_;intro G V Y;refine eK ?_;refine C1 (Fa Ac rfl rfl) (kC (HN.out _) ?_);rintro _ ak ⟨⟨⟩,aa⟩;revert N G V Y;refine eE aa ?_;intro N G V Y;refine kC (HF.out _ Af Af) ?_;rintro _ al ⟨⟨⟩,ab⟩;revert N G;refine eE ab ?_;intro N G;refine eK ?_;refine C1 (xB [_,_,_,_,_,_]) (eS [_,_,_,_,_,_] N ?_);intro am an ac _;have G:=G.fr ac Ab;refine eK ?_;refine Df rfl Ac rfl rfl rfl Af rfl rfl ?_;exact Ij (v:=m5) HB.out G Ec DI
def Tu:Except Int Rn->Bool
 | .error e=>decide (e ≠ -1)
 | .ok _=>true
def Ki (g:PG) (s:SV) (f d:Nat):Except Int Rn:=A0 (AI g.procs d) false g.main ⟨CK g.vars s g.vars.length,f⟩
def Tv {g:PG} {s:SV} {f d:Nat} (h:Tu (Ki g s f d)=true):ER g s f=IZ s f (Ki g s f d):=by
 unfold ER;have M:=OV g s f;generalize Classical.choose _=G at *;have N:Ki g s f d≠.error (-1):=λe=>by rw [e] at h;simp [Tu] at h
 have O:=LeX.blockN (ps:=g.procs) (Nat.le_max_left G d) false g.main ⟨CK g.vars s g.vars.length,f⟩ M;have U:=LeX.blockN (ps:=g.procs) (Nat.le_max_right G d) false g.main ⟨CK g.vars s g.vars.length,f⟩ N;rw [<-O,U];rfl
def Ss (a b:SV):Bool:=decide (a.cells=b.cells)&&(decide (a.tin=b.tin)&&decide (a.tout=b.tout))
def sameSB_iff {a b:SV}:Ss a b=true↔a=b:=by
 obtain ⟨h,G,a3⟩:=a;obtain ⟨M,N,O⟩:=b;simp [Ss]
def dO (g p:PG) (f d:Nat):List SV->Option Bool
 | []=>some true
 | s::l=>
  if Tu (Ki g s f d)=true then
   if (IZ s f (Ki g s f d)).err≠0 then dO g p f d l
   else if Tu (Ki p (IZ s f (Ki g s f d)).st f d)=true then
    if (IZ (IZ s f (Ki g s f d)).st f (Ki p (IZ s f (Ki g s f d)).st f d)).err=0/\Ss (IZ (IZ s f (Ki g s f d)).st f (Ki p (IZ s f (Ki g s f d)).st f d)).st s=true then dO g p f d l
    else some false
   else none
  else none
def O0 {g p:PG} {f d:Nat} {q:Bool}:∀(l:List SV) (n:Int),dO g p f d l=some q->(W5 g p f l n).ok=q
 | [],n,h=>by
  simp only [dO,gE] at h;rw [<-h];rfl
 | s::l,n,h=>by
  unfold dO at h;split at h
  . rename_i N;rw [Q3,Tv N];split at h
    . rename_i M;rw [AT M];exact O0 l n h
    . rename_i M;rw [AC M];split at h
      . rename_i O;rw [Tv O];split at h
        . rename_i G;rw [AT ⟨G.1,sameSB_iff.1 G.2⟩];exact O0 l _ h
        . rename_i G;rw [AC (λe=>G ⟨e.1,sameSB_iff.2 e.2⟩)];simpa using h
      . cases h
  . cases h
def pG (k:Int):PG:=⟨[⟨[120],1,0⟩],[],.mk 57 0 [] [.mk k 0 [] [.mk 2 0 [120] [],.mk 1 1 [] []]]⟩
def e50:EX:=⟨[105,110,99],5,9,⟨1,0,0⟩,pG 40⟩
def Kj:e50.valid:=of_decide_eq_true AR
def dP:Ez e50 (pG 40)=0:=by
 have h:(pG 40).acc:=of_decide_eq_true AR;unfold Ez;rw [AC (λh=>h Kj),AC (by rw [h.1,h.2.1];simp),h.2.2];exact AT rfl
def dQ:Ez e50 (pG 41)=0:=by
 have h:(pG 41).acc:=of_decide_eq_true AR;unfold Ez;rw [AC (λh=>h Kj),AC (by rw [h.1,h.2.1];simp),h.2.2];exact AT rfl
def go40:(BL e50 (pG 40)).2=0/\(BL e50 (pG 40)).1.ok=false:=by
 unfold BL;rw [AC (λh=>h dP)];exact ⟨rfl,O0 (d:=5) _ _ AR⟩
def go41:(BL e50 (pG 41)).2=0/\(BL e50 (pG 41)).1.ok=true:=by
 unfold BL;rw [AC (λh=>h dQ)];exact ⟨rfl,O0 (d:=5) _ _ AR⟩
def L50:List AtV:=[⟨[97,110,110],[105,110,99],false⟩,⟨[97,110,110],[105,110,99],true⟩,⟨[98,111,98],[105,110,99],true⟩]
def fA:BD [e50] [] [97,110,110] [105,110,99] (pG 40)=(((BL e50 (pG 40)).1,0),L50.take 1):=by
 have G:Rk [e50] [105,110,99]=some 0:=by kernel_rfl
 unfold BD;rw [AT AR,G];show (if (BL e50 (pG 40)).2≠0 then _ else _)=_;rw [AC (λh=>h go40.1),go40.2];rfl
def fB:BD [e50] (L50.take 1) [97,110,110] [105,110,99] (pG 41)=(((BL e50 (pG 41)).1,0),L50.take 2):=by
 have G:Rk [e50] [105,110,99]=some 0:=by kernel_rfl
 unfold BD;rw [AT AR,G];show (if (BL e50 (pG 41)).2≠0 then _ else _)=_;rw [AC (λh=>h go41.1),go41.2];rfl
def fC:BD [e50] (L50.take 2) [98,111,98] [105,110,99] (pG 41)=(((BL e50 (pG 41)).1,0),L50):=by
 have G:Rk [e50] [105,110,99]=some 0:=by kernel_rfl
 unfold BD;rw [AT AR,G];show (if (BL e50 (pG 41)).2≠0 then _ else _)=_;rw [AC (λh=>h go41.1),go41.2];rfl
def pts50:Cy L50 [97,110,110] (GO [e50])=5/\Cy L50 [98,111,98] (GO [e50])=5/\Dx L50 [97,110,110] [105,110,99]=2/\E7 (Nw L50 (GO [e50])) L50=[[98,111,98],[97,110,110]]:=⟨by kernel_rfl,by kernel_rfl,by kernel_rfl,by kernel_rfl⟩
def Xt (k:lB) (v z:Value) (kvs:List (lB×Value)):Cx (Ef (F8 kvs k v) k) z false=v:=by simp [Cx,VU]
def Q8 {r:Nat} {L:List AtV} {s:Bf} {ok:Bool} {bf:Bf->Nat} (hm:S r) (h1:MapB w' r ((Es (Bj L) s).map λt=>(t,.map (some (bf t))))) (hs:S (bf s)/\bf s≠r/\MapB w' (bf s) (GN (L++[⟨s,n,ok⟩]) s))
 (U:∀t∈Bj L,t≠s->S (bf t)/\bf t≠r/\bf t≠bf s/\MapB w' (bf t) (GN L t)) (hj:∀t∈Bj L,t≠s -> ∀u∈Bj L,u≠s->bf t=bf u->t=u):RecAt S w' r (L++[⟨s,n,ok⟩]):=by
 have V:Bj (L++[⟨s,n,ok⟩])=Es (Bj L) s:=KS ..;have h:∀t,t∈Es (Bj L) s->t=s\/(t∈Bj L/\t≠s):=λt G=>by
  by_cases e:t=s
  . exact gA e
  . exact gB ⟨(mem_addN.1 G).resolve_right e,e⟩
 refine ⟨bf,by rw [V];exact h1,hm,λt G=>?_,λt G u X e=>?_⟩
 . rw [V] at G;rcases h t G with rfl|⟨O,N⟩
   . exact hs
   . obtain ⟨k1,k2,-,k4⟩:=U t O N;exact ⟨k1,k2,by rw [UH L (λe=>N e.symm)];exact k4⟩
 . rw [V] at G X;rcases h t G with rfl|⟨O,N⟩
   . rcases h u X with rfl|⟨Y,Z⟩
     . rfl
     . exact absurd e.symm (U u Y Z).2.2.1
   . rcases h u X with rfl|⟨Y,Z⟩
     . exact absurd e (U t O N).2.2.1
     . exact hj t O N u Y Z e
set_option maxHeartbeats 8000000 in
def Q9 (M X:nP) (bb:Nat) (es:List EX) (fe:es.length<=1000) (L:List AtV) (hL:L.length<=1000000) (s n:Bf) (cw:s.length<=9223372036854775807) (hq:Cl s=true) (e:EX) (i:Nat) (hi:Rk es n=some i) (he:es[i]? = some e) (hw:e.wf) (cx:e.fuel<=10000) (p:PG) (hp:p.wf) (cy:p.vars.length<=1000000) (S:nP) (va:oA) (vc:Nat) (pa:oA) (pc:Nat) (ma:oA) (mc:Nat) (w:wD)
 (hb:BkAt M X w bb es L) (Y:p.sits S w va pa ma) (Z:PDsC S w p.procs pa) (cz:p.vars.length<=vc) :
 Calls prog 14 #[.pointer (some ⟨bb,0,none⟩),str s,str n,.agg (p.cells va vc pa pc ma mc).toArray] w (SubR M X bb es (BD es L s n p) w):=by
 have X0:=Ne w;have hv:BD es L s n p=if (BL e p).2≠0 then ((m5,(BL e p).2),L) else (((BL e p).1,0),Hi L s n (BL e p).1.ok):=by
  unfold BD;rw [AT hq,hi];simp only [he]
 obtain ⟨-,-,-,c0⟩:=JM hi;have ff:=(List.getElem?_eq_some_iff.1 he).1;rw [hv];have HB:=fZ hb;obtain ⟨ea,ec,r,O,h2,h3,h4,h5,h6⟩:=hb;have HN:=fZ (λw1=>IM s w1 cw);rw [hq] at HN;have HF:=fZ (λw1 h h2=>OO bb es Ab n X ea ec (.map (some r)) w1 h rfl h2);rw [c0] at HF;obtain ⟨kb,ko,rfl,-,hk⟩:=mM h3 Ab;obtain ⟨b9,c4,b2,c5,ca,c6,rx,sx⟩:=hk i e he;have HG:=fZ (λ(S1 S2 S3:nP) w1 (g1:e.g.sits S1 w1 b9 b2 ca) (c7:PDsC S1 w1 e.g.procs b2) (g2:p.sits S2 w1 va pa ma) (g3:PDsC S3 w1 p.procs pa)=>Tt e hw cx p hp cy (λ_=>True) b9 c4 b2 c5 ca c6 va vc pa pc ma mc w1 ⟨g1.wide λ_ _=>trivial,c7.wide λ_ _=>trivial,sx.room⟩ (g2.wide λ_ _=>trivial) (g3.wide λ_ _=>trivial) cz);have q1:=sx.g;have q2:=sx.p;have fg:=O.lt;have c8:=fZ h4;have H5:=fZ h5;have H6:=fZ h6;have H3:=fZ h3;have H2:=fZ h2;have H1:=fZ O;clear h4 h5 h6 h2 hk sx hi hq hv;generalize fh:BL e p=gv at *;obtain ⟨vd,er⟩:=gv;simp only;unfold mZ at *;obtain ⟨ac,cb,⟨bk,bl,bm⟩,cc⟩:=vd;refine Ad func14 ntmps14 rfl rfl ?_;refine cS (eB [_,_,_,_,_,_] ?_);intro b1 w2 h4 x5 p6 z7;revert Y Z X0 O h3 rx q1 q2;refine eE x5 ?_;intro Y Z X0 O h3 rx q1 q2;refine eA [_,_,_,_,_,_] ?_;intro b8 w9 aa c9 fj fk;revert h4 Y Z X0 O h3 rx q1 q2;refine eE c9 ?_;intro h4 Y Z X0 O h3 rx q1 q2;refine eK ?_;refine C1 (Fa Ac rfl rfl) ?_;refine kC (HN.out _) ?_;rintro _ fl ⟨⟨⟩,da⟩;revert aa h4 Y Z X0 O h3 rx q1 q2;refine eY da ?_;intro fm aa h4 Y Z X0 O h3 rx q1 q2;refine kC (HF.out _ Af Af) ?_;rintro _ cd ⟨⟨⟩,db⟩;revert aa h4 Y Z X0 O h3 rx q1 q2;refine eY db ?_;intro fo aa h4 Y Z X0 O h3 rx q1 q2;refine C1 Pa (cT (Aj (cS (C1 Mv (C1 V3 (cT (Dd (Am (Ai ?_)))))))))
 refine ED (ι:=Nat×oA×Nat×oA×Nat×oA×Nat) (λy=>[(0,.pointer (some ⟨bb,0,none⟩)),(1,str s),(2,str n),(8,.pointer (some ⟨b8,0,none⟩)),(11,.pointer (some ⟨y.1,0,none⟩)),(12,.int .i64 er)])
  (λy w'=>Blk w' y.1 [.bool ac,.int .i64 cb,.slice y.2.1 bk.length y.2.2.1,.slice y.2.2.2.1 bl.length y.2.2.2.2.1,.slice y.2.2.2.2.2.1 bm.length y.2.2.2.2.2.2,.int .i64 cc]/\(⟨bk,bl,bm⟩:SV).sits (λb=>w.heap.size<=b/\b≠y.1/\b≠b8/\b<w'.heap.size) w' y.2.1 y.2.2.2.1 y.2.2.2.2.2.1/\(⟨bk,bl,bm⟩:SV).small/\Blk w' bb [.slice (some ⟨kb,ko,none⟩) es.length ec,.map (some r)]/\Blk w' b8 [.bool false,.int .i64 0,.slice none 0 0,.slice none 0 0,.slice none 0 0,.int .i64 0]/\Ext w w'/\w.heap.size<=y.1/\y.1<w'.heap.size/\y.1≠b8) ?_ ?_
 . focus
    refine Ap (λwz=>Ext cd wz) 14 (.pure 0 (.pure 1 (.pure 2 (.pure 3 (.pure 4 (.pure 5 (.pure 6 (.pure 7 (.fork 8 (.pure 9 (.pure 10 (.pure 11 (.fork 12 (.fork 13 .tail .none) .none)))) (.fork 12 (.fork 8 (.pure 9 (.pure 10 (.pure 11 (.fork 13 .tail .none)))) .none) .none)))))))))) mixed AR (Aa Ag) ?_;intro dc ce _;have G:(λwz=>Ext cd wz) dc:=ce;simp only at G;have ay:=aa;have az:=h4;have a0:=Y;have a4:=Z;have ah:=O;have bo:=h3;have a5:=rx;have bp:=q1;have bq:=q2;revert aa h4 Y Z X0 O h3 rx q1 q2;refine eY ce ?_;intro fp aa h4 Y Z X0 O h3 rx q1 q2;refine ⟨G,?_⟩;refine eT ?_;refine Tq rfl (Bt Ac rfl rfl rfl (λwz V=>(mw a5 V)) rfl) (Tq rfl (xL [_,_,_,_,_,_] (λwz V=>(my az V))) ?_);refine Ax rfl (AM AR rfl (HG.out _ _ _ _ Af Af Af Af) (λ_ _ h=>h.ret)) rfl ?_ aFh ?kra5;rintro _ dz ⟨fq,fs,d0,d1,dd,de,⟨⟩,ao,d2,cf⟩;revert G aa h4 Y Z X0 O h3 rx q1 q2;refine eY cf ?_;intro d3 G aa h4 Y Z X0 O h3 rx q1 q2;refine ⟨G,?_⟩;refine eT ?_;refine Ax rfl (A3 Ca rfl) rfl ?_ aFh Au;rintro _ d4 ⟨d5,rfl,ap⟩;have br:=ap.blk;dsimp only at br;have cg:=ap.ext;have d6:=ap.pos;have d7:=ap.size;revert ao G aa h4 Y Z X0 O h3 rx q1 q2;refine eE cg ?_;intro ao G aa h4 Y Z X0 O h3 rx q1 q2;refine ⟨G,?_⟩;refine Ch [_,_,_,_,_,_] [_,_,_,_,_,_] rfl Ac rfl rfl rfl rfl rfl rfl br rfl rfl ?_ Au;intro d8 a6;have d9:=a6.blk;have a7:=a6.fr;have eb:=a6.size;revert ao G aa h4;refine eF a7 ?_;intro ao G aa h4;clear Y Z;revert X0 O;refine eF a7 ?_;intro X0 O;clear h3 rx q1 q2 a7;refine ⟨G,?_⟩;clear ay az a0 a4 ah bo a5 bp bq G;refine Aq rfl (C1 Pa (Al ?_));rotate_left;refine Ax rfl (A3 Ca rfl) rfl ?_ aFh Au;rintro _ ed ⟨ee,rfl,aq⟩;have ar:=aq.blk;dsimp only at ar;have ch:=aq.ext;have ef:=aq.pos;have eg:=aq.size;revert G aa h4 Y Z X0 O h3 rx q1 q2;refine eE ch ?_;intro G aa h4 Y Z X0 O h3 rx q1 q2;refine ⟨G,?_⟩;refine tC rfl rfl (HG.out _ _ _ _ Af Af Af Af) ?_;rintro _ eh ⟨ei,ej,df,dg,dh,di,⟨⟩,bs,ek,ci⟩;revert ar G aa h4 Y Z X0 O h3 rx q1 q2;refine eY ci ?_;intro el ar G aa h4 Y Z X0 O h3 rx q1 q2
    refine ⟨G,?_⟩;refine eT ?_;refine Ch [_,_,_,_,_,_] [_,_,_,_,_,_] rfl Ac rfl rfl rfl rfl rfl rfl ar rfl rfl ?_ Au;intro en a8;have eo:=a8.blk;have a9:=a8.fr;have ep:=a8.size;revert bs G aa h4;refine eF a9 ?_;intro bs G aa h4;clear Y Z;revert X0 O;refine eF a9 ?_;intro X0 O;clear h3 rx q1 q2 a9;refine ⟨G,?_⟩;clear ay az a0 a4 ah bo a5 bp bq G;refine Aq rfl (C1 Pa (Al ?_));rotate_left
   all_goals exact BC (_,_,_,_,_,_,_) sC ⟨Af,nu Af (λb h=>⟨Ab,by simp only;omega,Ab,Ab⟩),Af,Af,Af,X0,by simp only;omega,by simp only;omega,by simp only;omega⟩
 . clear O h3 h4 aa HN HF HG rx q1 q2 Y Z X0;rintro ⟨dk,a1,c1,a2,c2,a3,c3⟩ w1 ⟨hv,sv,b3,O,U,X0,o1,o2,o3⟩;simp only at hv sv o1 o2 o3;refine m7 (m:=[(0,.pointer (some ⟨bb,0,none⟩)),(1,str s),(2,str n),(8,.pointer (some ⟨b8,0,none⟩)),(11,.pointer (some ⟨dk,0,none⟩)),(12,.int .i64 er)]) ?_ sB;rcases Decidable.em (er=0) with b4|b4
   case inr=>
    rw [AT b4];refine eK ?_;refine C1 (xB [_,_,_,_,_,_]) (C1 Mv (eS [_,_,_,_,_,_] U ?_));intro ft fu dl fv;revert hv sv O X0;refine eF dl ?_;intro hv sv O X0;refine C1 Pa (cT (AU (At ?_)));refine Df rfl Ac rfl rfl rfl Af rfl rfl ?_;exact Ij (v:=m5) HB.out X0 Ec DI
   subst b4;rw [AC AQ];have HX:=fZ X0;have fw:=X0.size;obtain ⟨bf,b5,r2,r3,r4⟩:=c8.out;have dm:=fZ b5;have r1:=b5.ext X0;have fx:=r1.lt;clear b5;have N:=r1.is;have hg:=ON L s n;unfold Hj at hg;by_cases al:s∈Bj L
   . have am:Cx (Ef ((Bj L).map λs=>(s,Value.map (some (bf s)))) s) (.map none) false = .map (some (bf s)):=by
      rw [Fv (λs=>.map (some (bf s))),AT al];rfl
     obtain ⟨m1,m2,cj⟩:=r3 s al;have m3:=cj.ext X0;clear cj;have V:MapZ w1 (some (bf s)) (GN L s):=gB ⟨_,rfl,m3.is⟩;have b6:=fZ r3;have au:=fZ r4;cases ad:CE L s n
     . have ae:Hi L s n ac=L++[⟨s,n,ac⟩]:=by unfold Hi;rw [AC (by simp [ad])]
       rw [ad] at hg;have af:=Te L s n ac;rw [Qv L s n ac ad] at af;have dn:Dx L s n<=1000000:=jR (List.countP_le_length ..) hL;have F:Fr (· = bf s) w w1:=mt X0;have fy:=H6.out _ m1;have dp:=H6.out _ r2;rw [ae];clear ae ad X0;refine eK ?_;refine C1 (C0 Ac rfl rfl rfl rfl rfl am (λwz V=>by rw [show wz=_ from V];assumption)) (C1 Mv (C1 (Fh Ac rfl rfl rfl rfl rfl hg (λwz V=>by rw [show wz=_ from V];assumption)) (xA [_,_] ?_)));intro fz f0 dq;refine eI [_,_] dq ?_;intro ck ba dr f1 f2;revert hv sv O U r1 N m3 V F;refine eE dr ?_;intro hv sv O U r1 N m3 V F;refine eK ?_;refine C1 (C0 Ac rfl rfl rfl rfl rfl am (λwz V=>by rw [show wz=_ from V];assumption)) (C1 (YQ Ac rfl rfl) ?_);refine eK ?_;refine Ap (λwz=>Ext ck wz) 13 (.pure 0 (.pure 1 (.pure 2 (.pure 3 (.pure 4 (.pure 5 (.pure 6 (.pure 7 (.pure 8 (.pure 9 (.pure 10 (.pure 11 (.pure 12 .tail))))))))))))) mixed AR (Aa Ag) ?_;intro ds bt _;have an:(λwz=>Ext ck wz) ds:=bt;simp only at an;have b7:=ba;have bu:=hv;have bv:=sv;have ah:=O;have bc:=U;have cl:=r1;have bn:=N;have cm:=m3;have bw:=V;revert ba hv sv O U r1 N m3 V F;refine eY bt ?_;intro eq ba hv sv O U r1 N m3 V F;refine ⟨an,?_⟩;refine eT ?_;refine Tq rfl (C0 Ac rfl rfl rfl rfl rfl am (λwz V=>MapIs.ext Af V)) ?_;refine eT ?_;refine Tq rfl (xB [_,_]) ?_;clear an b7 bu bv ah bc cl bn cm bw
       refine Aq rfl (A9 (EY Ac rfl rfl rfl rfl rfl Af) (BK ?_));rintro _ et ⟨av,ai,eu⟩;revert ba hv sv;refine eZ ai ?_;intro ew ba hv sv;have U:=U.fr ai Ab;have r1:=MapB.fr r1 ai (λe=>m2 e.symm);have N:=MapIs.fr N ai (λe=>m2 e.symm);clear m3 V;have F:=mB F ai (λk hk=>gA hk);refine eK ?_;refine eS [_,_,_,_,_,_] U ?_;intro ex ey bd ez;have av:=av.fr bd Ab;revert hv sv r1 N;refine eF bd ?_;intro hv sv r1 N;have F:=mB F bd (λk hk=>gB Ab);refine C1 Pa (cT (AU ?_));refine Df rfl Ac rfl rfl rfl Af rfl rfl ?_;rw [af] at av;have be:∀k,X k -> ¬k=bf s:=λk hk e=>(H5.out k hk).1 (e▸m1)
       refine ⟨a1,c1,a2,c2,a3,c3,rfl,sv.wide (λb h=>⟨h.1,Ab⟩),b3,M,λ_ h=>h,λ_ h=>gA h,⟨_,ec,r,H1.out.fr F (be _ H2.out),H2.out,H3.out.fr F be,Q8 (bf:=bf) r2 ?_ ⟨m1,m2,av⟩ (λt ht bg=>?_) (λt ht _ u hu _=>au.out t ht u hu),λk hk=>⟨(H5.out k hk).1,by have:=(H5.out k hk).2;have:=F.size;omega⟩,λk hk=>by have:=H6.out k hk;have:=F.size;omega⟩,F.weaken λk (e:k=bf s)=>by subst e;exact m1⟩
       . unfold Es;rw [AT al];exact dm.out.fr F (λe=>m2 e.symm)
       . obtain ⟨k1,k2,k3⟩:=b6.out t ht;have cn:bf t≠bf s:=λe=>bg (au.out t ht s al e)
         exact ⟨k1,k2,cn,k3.fr F cn⟩
     . have ae:Hi L s n ac=L:=by unfold Hi;rw [AT ad]
       rw [ad] at hg;rw [ae];refine eK ?_;refine C1 (C0 Ac rfl rfl rfl rfl rfl am (λwz V=>by rw [show wz=_ from V];assumption)) (C1 Mv (C1 (Fh Ac rfl rfl rfl rfl rfl hg (λwz V=>by rw [show wz=_ from V];assumption)) (xA [_,_] ?_)));intro f3 f4 dt;refine eI [_,_] dt ?_;intro f5 f6 du f7 f8;revert hv sv O U X0 r1 N m3 V;refine eE du ?_;intro hv sv O U X0 r1 N m3 V;refine eK ?_;refine eS [_,_,_,_,_,_] U ?_;intro f9 e0 bx e1;revert hv sv O X0;refine eF bx ?_;intro hv sv O X0;clear r1 N m3 V bx;refine C1 Pa (cT (AU ?_));refine Df rfl Ac rfl rfl rfl Af rfl rfl ?_;exact Ij (v:=⟨ac,cb,⟨bk,bl,bm⟩,cc⟩) HB.out X0 (sv.wide (λb h=>⟨h.1,Ab⟩)) b3
   . have co:GN L s=[]:=by unfold GN;rw [Mc al];rfl
     have am:Cx (Ef ((Bj L).map λs=>(s,Value.map (some (bf s)))) s) (.map none) false = .map none:=by
      rw [Fv (λs=>.map (some (bf s))),AC al];rfl
     have V:MapZ w1 none (GN L s):=gA ⟨rfl,co⟩;have ad:CE L s n=false:=(Ka L s n (by rw [Mc al];simp)).2;have ae:Hi L s n ac=L++[⟨s,n,ac⟩]:=by unfold Hi;rw [AC (by simp [ad])]
     have af:=Te L s n ac;rw [Qv L s n ac ad] at af;have dn:Dx L s n<=1000000:=jR (List.countP_le_length ..) hL;have F:Fr (· = r) w w1:=mt X0;have b6:=fZ r3;have au:=fZ r4;have dp:=H6.out _ r2;have ga:bb≠r:=λe=>(H5.out _ H2.out).1 (e▸r2)
     rw [ad] at hg;rw [ae];clear ae ad X0 r3 r4;refine eK ?_;refine C1 (C0 Ac rfl rfl rfl rfl rfl am (λwz V=>by rw [show wz=_ from V];assumption)) (C1 Mv (C1 (Fh Ac rfl rfl rfl rfl rfl hg (λwz V=>by rw [show wz=_ from V];assumption)) (xA [_,_] ?_)));intro gb gc dv;refine eI [_,_] dv ?_;intro gd ag dw gf gg;revert hv sv O U r1 N V F;refine eE dw ?_;intro hv sv O U r1 N V F;refine eK ?_;refine C1 (C0 Ac rfl rfl rfl rfl rfl am (λwz V=>by rw [show wz=_ from V];assumption)) (C1 (YR Ac rfl rfl) ?_);refine eK ?_;refine Az (Iz) rfl ?_ aFh;rintro _ e2 ⟨bh,rfl,e3,aj,cp,e4⟩;revert ag hv sv O U r1 N V F;refine eY cp ?_;intro e5 ag hv sv O U r1 N V F;refine A9 (EY Ac rfl rfl rfl rfl rfl Af) (BK ?_);rintro _ bz ⟨ab,bi,e6⟩;revert aj ag hv sv O U;refine eZ bi ?_;intro e7 aj ag hv sv O U;clear r1 N;have V:=MapZ.fr V bi (λk hk=>(kO _ hk.symm).elim);have F:=mB F bi (λk hk=>gA hk);refine cT (Ap (λwz=>Ext bz wz) 13 (.pure 0 (.pure 1 (.pure 2 (.pure 3 (.pure 4 (.pure 5 (.pure 6 (.pure 7 (.pure 8 (.pure 9 (.pure 10 (.pure 11 (.pure 12 .tail))))))))))))) mixed AR (Aa Ag) ?_);intro cq b0 _;have bj:(λwz=>Ext bz wz) cq:=b0;simp only at bj;have cu:=ab;have cv:=aj;have dx:=ag;have bu:=hv;have bv:=sv;have ah:=O;have bc:=U;have bw:=V;revert ab aj ag hv sv O U V F;refine eY b0 ?_;intro e8 ab aj ag hv sv O U V F;refine ⟨bj,?_⟩;refine eT ?_;refine Tq rfl (C0 Ac rfl rfl rfl rfl rfl (Xt _ _ _ _) (λwz V=>MapIs.ext (MapB.is Af) V)) ?_;refine eT ?_;refine Tq rfl (xB [_,_]) ?_;refine Aq rfl (A9 (EY Ac rfl rfl rfl rfl rfl Af) (BK ?_));rintro _ e9 ⟨aw,ak,fa⟩;have fb:=ak.size;have ab:=ab.fr ak Ab;revert ag hv sv O U;refine eF ak ?_;intro ag hv sv O U;have V:=MapZ.fr V ak (λk hk=>(kO _ hk.symm).elim);have F:=mB F ak (λk hk=>gB Ab);refine eK ?_;refine eS [_,_,_,_,_,_] U ?_;intro cr fc ax fd;revert aw ab;refine eF ax ?_;intro aw ab;revert hv sv O;refine eF ax ?_;intro hv sv O;have V:=MapZ.fr V ax (λk hk=>(kO _ hk.symm).elim);have F:=mB F ax (λk hk=>gB Ab);refine C1 Pa (cT (AU ?_))
     refine Df rfl Ac rfl rfl rfl Af rfl rfl ?_;rw [co] at af;rw [af] at aw;have be:∀k,X k -> ¬k=r:=λk hk e=>(H5.out k hk).1 (e▸r2)
     have ct:=Md (f:=λt=>Value.map (some (bf t))) (g:=λt=>Value.map (some (if t=s then bh else bf t))) (n:=s) (λt ht=>by simp only [AC ht]) (Bj L) (Jz L);simp only [if_true] at ct;rw [ct] at ab;have gh:w.heap.size<=bh/\bh<cr.heap.size:=⟨Ab,Ab⟩;have gi:=F.size;refine ⟨a1,c1,a2,c2,a3,c3,rfl,sv.wide (λb h=>⟨h.1,Ab⟩),b3,λk=>M k\/k=bh,λ_ h=>gA h,λk h=>h.imp id (λe=>by omega),⟨_,ec,r,H1.out.fr F (be _ H2.out),H2.out,H3.out.fr F be,Q8 (bf:=λt=>if t=s then bh else bf t) (gA r2) ab ⟨?_,?_,?_⟩ (λt ht bg=>?_) (λt ht bg u hu dy e=>?_),λk hk=>⟨λh=>?_,by have:=(H5.out k hk).2;omega⟩,λk hk=>?_⟩,F.weaken λk (e:k=r)=>by subst e;exact r2⟩
     . simp
     . simp only [if_true];omega
     . simp only [if_true];exact aw
     . obtain ⟨k1,k2,k3⟩:=b6.out t ht;have:=H6.out _ k1;simp only [AC bg,if_true];exact ⟨gA k1,k2,Ab,k3.fr F (λe=>k2 e)⟩
     . simp only [AC bg,AC dy] at e;exact au.out t ht u hu e
     . rcases h with h|h
       . exact (H5.out k hk).1 h
       . have:=(H5.out k hk).2;omega
     . rcases hk with hk|hk
       . have:=H6.out k hk;omega
       . omega
def DQ:List Int->Int
 | []=>0
 | x::r=>if x≠0 then x else DQ r
def O1 {l:List Int} {j:Nat} (h:j<l.length):DQ (l.drop j)=if l[j]≠0 then l[j] else DQ (l.drop (j+1)):=by
 rw [gW h,DQ]
def fD (xs:List Int) (Y:xs.length<=1000) (g c:Nat) (w:wD) (h:Blk w g (AX xs)):Calls prog 37 #[.slice (some ⟨g,0,none⟩) xs.length c] w λe w'=>e = .returned (.int .i64 (DQ xs))/\Ext w w':=by
 have X:=Ne w;refine Ad func37 ntmps37 rfl rfl (cS (C1 Pa (cN (C1 Pa (cT (Aj (cS (C1 Mv (C1 Pz (C1 Mv (cT ?_)))))))))));refine As ?_;refine AF (ι:=Nat) (λj=>[(3,.int .i64 0),(6,.slice (some ⟨g,0,none⟩) xs.length c),(7,.int .i64 xs.length),(8,.int .i64 j)])
  (λj w'=>j<=xs.length/\DQ xs=DQ (xs.drop j)/\Blk w' g (AX xs)/\Ext w w') (λj=>xs.length-j) 0 sB ⟨gI _,rfl,h,X⟩ ?_
 rintro j w1 ⟨Z,G,h,X⟩;by_cases M:j<xs.length
 . have U:Row w1 ⟨g,0+j*1,none⟩ [.int .i64 xs[j]]:=λi v N=>by
    have V:w1.cell? ⟨g,j,none⟩=some (.int .i64 xs[j]):=mC h (by simp [AX,M]);cases i with
    | zero=>
     simp only [gX,gE] at N;subst N;simpa [jY] using V
    | succ i=>simp at N
   rw [O1 M] at G;generalize xs[j]=x at *;by_cases O:x=0
   . subst O;rw [AC AQ] at G;refine cS (C1 V3 (cT (Aj (Ll (Am (Ai (Aj (As (cS (C1 Pi (C1 (MR U) (C1 Pa (cN (C1 Mv (C1 Mv (C1 V2 (cT (MS (Am (Ah (Ai (Ak (C1 V7 (C1 Mv (Al ?_)))))))))))))))))))))))));exact Av (j+1) sB ⟨Ab,G,h,X⟩ Ab
   . rw [AT O] at G;rw [G];refine kR ?_;exact ⟨rfl,X⟩
 . obtain rfl:j=xs.length:=by omega
   rw [lk] at G;rw [G];refine kR ?_;exact ⟨rfl,X⟩
def Ra (L:List AtV) (ps:List (Bf×Int)) (s t:Bf):DQ [Kc YU (Cy L t ps) (Cy L s ps),Kc YU (Dy L s) (Dy L t),Kc If s t]=ND L ps s t:=by
 unfold ND DQ DQ DQ DQ;split
 . rfl
 . split
   . rfl
   . split
     . rfl
     . rename_i h;simp at h;exact h.symm
def ZB (M X:nP) (V:Nat) (es:List EX) (he:es.length<=1000) (hp:∀e∈es,0<=e.points/\e.points<=1000) (L:List AtV) (hL:L.length<=1000000) (s t:Bf) (hs:s∈Bj L) (ht:t∈Bj L) (bx:Nat) (w:wD) (O:BkAt M X w V es L) (hx:Blk w bx [.pointer (some ⟨V,0,none⟩)]) :
 Calls prog 36 #[str s,str t,.pointer (some ⟨bx,0,none⟩)] w λe w'=>e = .returned (.int .i64 (ND L (GO es) s t))/\Ext w w':=by
 have N:=Ne w;rw [<-Ra];have HP:=fZ (λs w1 h=>JC M X V es he hp L s w1 h);have HT:=fZ (λs hs w1 h=>YT M X V es L hL s hs w1 h);have HO:=fZ (λ(a b c:Int) g w1 h=>fD [a,b,c] AQ g 3 w1 h);clear hp;refine Ad func36 ntmps36 rfl rfl ?_;refine eK ?_;refine Ap (λY=>Ext w Y) 16 (.pure 0 (.pure 1 (.pure 3 (.pure 4 (.pure 7 (.pure 8 (.pure 10 (.pure 11 (.pure 14 (.pure 15 (.fork 2 (.fork 5 (.fork 6 (.fork 9 (.fork 12 (.fork 13 .tail .none) .none) .none) .none) .none) .none))))))))))) mixed AR (Aa Ag) ?_;intro w1 x2 _;have G:(λY=>Ext w Y) w1:=x2;simp only at G;have ah:=hx;revert O N;refine eE x2 ?_;intro O N;refine ⟨G,?_⟩;refine eT ?_;refine tC rfl rfl (HP.out _ _ Af) ?_;rintro _ w7 ⟨⟨⟩,x6⟩;revert G O N;refine eE x6 ?_;intro G O N;refine ⟨G,?_⟩;refine tC rfl rfl (HP.out _ _ Af) ?_;rintro _ ai ⟨⟨⟩,Z⟩;revert G O N;refine eE Z ?_;intro G O N;refine ⟨G,?_⟩;refine tC rfl rfl (Wt _ _ _) ?_;rintro _ aj ⟨⟨⟩,aa⟩;revert G O N;refine eE aa ?_;intro G O N;refine ⟨G,?_⟩;refine tC rfl rfl (HT.out _ Af _ Af) ?_;rintro _ ak ⟨⟨⟩,ab⟩;revert G O N;refine eE ab ?_;intro G O N;refine ⟨G,?_⟩;refine tC rfl rfl (HT.out _ Af _ Af) ?_;rintro _ al ⟨⟨⟩,ac⟩;revert G N;refine eE ac ?_;intro G N;refine ⟨G,?_⟩;refine tC rfl rfl (Wt _ _ _) ?_;rintro _ am ⟨⟨⟩,ad⟩;revert G N;refine eE ad ?_;intro G N;refine ⟨G,?_⟩;refine Aq rfl (cC rfl (aL _ _ _) ?_);rintro _ an ⟨⟨⟩,ae⟩;have N:=N.ext ae;refine Az (xS [_,_,_]) rfl ?_ aFh;rintro _ ao ⟨ap,rfl,U,aq⟩;have ar:=U.blk;have af:=U.ext;have N:=N.ext af;refine cC rfl (HO.out _ _ _ _ _ Af) ?_;rintro _ au ⟨⟨⟩,ag⟩;have N:=N.ext ag;refine kR ?_
 exact ⟨rfl,N⟩
section
variable {α:Type} {lt:α->α->Bool}
def FO (lt:α->α->Bool) (l:List α):List α:=l.foldl (λa x=>Cw lt x a) []
def St (l:List α) (x:α):FO lt (l++[x])=Cw lt x (FO lt l):=by simp [FO,List.foldl_append]
def MI (x:α):∀l:List α,(Cw lt x l).length=l.length+1
 | []=>rfl
 | y::r=>by unfold Cw;split<;>simp [MI x r]
def MJ:∀l a:List α,(l.foldl (λa x=>Cw lt x a) a).length=a.length+l.length
 | [],a=>rfl
 | x::l,a=>by rw [List.foldl_cons,MJ l,MI,gH];omega
def Kk (l:List α):(FO lt l).length=l.length:=by
 have:=MJ (lt:=lt) l [];simpa [FO] using this
def GW (p:List α) (x:α) (q r:List α):List α:=p.reverse++(x::(q++r))
def Xu (p:List α) (x:α) (q r:List α):(GW p x q r)[p.length]? = some x:=by unfold GW;simp
def Xv (y:α) (p:List α) (x:α) (q r:List α):(GW (y::p) x q r)[p.length]? = some y:=by unfold GW;simp
def NU (y:α) (p:List α) (x:α) (q r:List α):((GW (y::p) x q r).set (p.length+1) y).set p.length x=GW p x (y::q) r:=by
 unfold GW;rw [kY,iG];simp [List.set_append]
def Rb (p:List α) (x:α) (q r:List α):(GW p x q r).length=p.length+1+q.length+r.length:=by unfold GW;simp;omega
def InsI (lt:α->α->Bool) (x:α) (a p q:List α):Prop:=(Cw lt x a).reverse=(Cw lt x p).reverse++q
def InsI.step {x y:α} {a p q:List α} (h:InsI lt x a (y::p) q) (G:lt x y=true):InsI lt x a p (y::q):=by
 unfold InsI at h ⊢;rw [h,Cw,AT G];simp
def InsI.stop {x:α} {a p q:List α} (h:InsI lt x a p q) (G:∀y r,p=y::r->lt x y=false) (r:List α):GW p x q r=(Cw lt x a).reverse++r:=by
 unfold InsI at h;rw [h];cases p with
 | nil=>simp [GW,Cw]
 | cons y p=>
  rw [Cw,AC (by rw [G y p rfl];simp)];simp [GW]
def U8 {z:α} {l:List α} (h:z∈FO lt l):z∈l:=by
 have:=(L5 (lt:=lt) (z:=z) l []).1 h;simpa using this
def MK (lt:α->α->Bool) (l:List α) (i:Nat):List α:=(FO lt (l.take i)).reverse++l.drop i
def Rc {l:List α} {i:Nat} (h:i<l.length):MK lt l i=GW (FO lt (l.take i)) l[i] [] (l.drop (i+1)):=by
 unfold MK GW;rw [gW h,kv]
def NV {l:List α} {i:Nat} (h:i<l.length):MK lt l (i+1)=(Cw lt l[i] (FO lt (l.take i))).reverse++l.drop (i+1):=by
 unfold MK;rw [gC h,St]
def ML {l:List α} (h:1<=l.length):MK lt l 1=l:=by
 cases l with
 | nil=>simp at h
 | cons x r=>simp [MK,FO,Cw]
def Kl {l:List α}:MK lt l l.length=Ft lt l:=by
 unfold MK Ft FO;simp
def InsI.first (x:α) (a:List α):InsI lt x a a []:=by unfold InsI;simp
end
def ArrT (w:wD) (g:Nat) (xs:List Bf):Prop:= ∃tail,Blk w g (xs.map str++tail)
section
variable {P:Program} {n:Nat} {l:Sl} {tab:Tab} {ty:TypeId} {g:Nat}
def ArrT.lt (h:ArrT w g xs):g<w.heap.size:=by obtain ⟨_,h⟩:=h;exact h.lt
def ArrT.ext (h:ArrT w g xs) (x:Ext w w'):ArrT w' g xs:=by obtain ⟨t,h⟩:=h;exact ⟨t,h.ext x⟩
instance  : LfE w w' (ArrT w g xs) (ArrT w' g xs):=⟨λx h=>Bk.ArrT.ext h x⟩
def ArrT.row1 {j:Nat} {x:Bf} (h:ArrT w g xs) (M:xs[j]? = some x):Row w ⟨g,0+j*1,none⟩ [str x]:=λi v G=>by
 obtain ⟨t,h⟩:=h;have N:=(List.getElem?_eq_some_iff.1 M).1;have O:w.cell? ⟨g,j,none⟩=some (str x):=mC h (by rw [gN (by simpa using N),iD,M];rfl);cases i with
 | zero=>
  simp only [gX,gE] at G;subst G;simpa [jY] using O
 | succ i=>simp at G
def FP {x y:Operand} {t sz j:Nat} {s:Sk} {z:Bf} (T:TabOk P tab) (ht:AB tab t=some (s,sz)) (hz:sz=1) (hx:ev l x=some (.pointer (some ⟨g,0+j*1,none⟩))) (hy:ev l y=some (str z)) (hA:ArrT w g xs) (hj:j<xs.length) :
 BG P n l (.store t x y) ty w (GE λw'=>ArrT w' g (xs.set j z)/\Fr (· = g) w w'/\w'.heap.size=w.heap.size):=by
 subst hz;obtain ⟨tl,hb⟩:=hA;have hd:=DR (P:=P) (n:=n) (l:=l) (ty:=ty) (us:=[str z]) T ht hx hy rfl rfl rfl hb (by rw [md];simp;omega);unfold BG at hd ⊢;intro a dst pos after gd next Q ha hn b;refine hd a dst pos after gd next Q ha (λv' w' h=>h.elim) (λw' hP=>b w' ?_);have hP':Put w w' g (Ba (xs.map str++tl) (0+j*1) [str z]):=hP;have e:Ba (xs.map str++tl) (0+j*1) [str z]=(xs.set j z).map str++tl:=by
  simp only [Ba,iR,kI];rw [List.set_append,AT (by simpa using hj),List.map_set]
 rw [e] at hP';exact ⟨⟨tl,hP'.blk⟩,hP'.fr,hP'.size⟩
end
abbrev ZZ (bx:Nat):Value:=.func (.func 36) #[] #[.pointer (some ⟨bx,0,none⟩)]
set_option maxHeartbeats 8000000 in
def bQ (M X:nP) (bb:Nat) (es:List EX) (he:es.length<=1000) (hp:∀e∈es,0<=e.points/\e.points<=1000) (L:List AtV) (hL:L.length<=1000000) (bx g cap:Nat) (xs:List Bf) (hx:∀x∈xs,x∈Bj L) (hn:1<=xs.length/\xs.length<=12) (hg:¬X g /\ ¬M g/\g≠bx) (w:wD) (U:BkAt M X w bb es L) (G:Blk w bx [.pointer (some ⟨bb,0,none⟩)]) (N:ArrT w g xs) :
 Calls prog 92 #[.slice (some ⟨g,0,none⟩) xs.length cap,.int .i64 0,.int .i64 xs.length,ZZ bx] w λe w'=>e = .returned (.tuple #[])/\ArrT w' g (Ft (Nw L (GO es)) xs)/\Fr (· = g) w w':=by
 have F:=mx (· = g) w;have HC:=fZ (λs t hs ht w1 h1 h2=>ZB M X bb es he hp L hL s t hs ht bx w1 h1 h2);have a0:=λs t=>Wr L (GO es) s t
 obtain ⟨g1,g2,g3⟩:=hg;have HX:=fZ hx;generalize be:Nw L (GO es)=lt at *;refine Ad func92 ntmps92 rfl rfl ?_;refine cS (C1 Mv (C1 V7 (C1 Pa (cT ?_))));refine As ?_;refine AF (ι:=Nat) (λi=>[(0,.slice (some ⟨g,0,none⟩) xs.length cap),(1,.int .i64 0),(2,.int .i64 xs.length),(3,ZZ bx),(8,.int .i64 i)])
  (λi w'=>1<=i/\i<=xs.length/\ArrT w' g (MK lt xs i)/\BkAt M X w' bb es L/\Blk w' bx [.pointer (some ⟨bb,0,none⟩)]/\Fr (· = g) w w') (λi=>xs.length-i) 1 sB ⟨gP _,hn.1,by rw [ML hn.1];exact N,U,G,F⟩ ?_
 rintro i w1 ⟨bk,hi,N,U,G,F⟩;by_cases al:i<xs.length
 . have aq:∀z∈FO lt (xs.take i),z∈Bj L:=λz hz=>HX.out z (jO (U8 hz))
   have a1:=HX.out _ (gK al);have a2:=Kk (lt:=lt) (xs.take i);rw [iE] at a2;have a3:=NV (lt:=lt) al;rw [Rc al] at N;have bl:(xs.drop (i+1)).length=xs.length-(i+1):=ky ..;have HM:=fZ aq;have HN:=fZ a3;generalize bm:FO lt (xs.take i)=acc at *;generalize xs.drop (i+1)=r at *;generalize xs[i]=x at *;refine Aj (cS (C1 Mv (C1 Mv (C1 V3 (cT (Ll (Am (Ai (Aj (As (cS ?_)))))))))));refine C1 Mv (C1 Pa (cT ?_));refine As ?_;refine AF (ι:=List Bf×List Bf) (λz=>[(0,.slice (some ⟨g,0,none⟩) xs.length cap),(1,.int .i64 0),(2,.int .i64 xs.length),(3,ZZ bx),(8,.int .i64 i),(9,.int .i64 z.1.length)])
    (λz w'=>InsI lt x acc z.1 z.2/\z.1.length+z.2.length=i/\(∀y∈z.1,y∈Bj L)/\ArrT w' g (GW z.1 x z.2 r)/\BkAt M X w' bb es L/\Blk w' bx [.pointer (some ⟨bb,0,none⟩)]/\Fr (· = g) w w') (λz=>z.1.length) (acc,[]) (by (refine An rfl ?_;refine An rfl ?_;refine An rfl ?_;refine An rfl ?_;refine An rfl ?_;refine BO rfl (by go_num) ?_;exact BE)) ⟨InsI.first x acc,by simp only [iM];omega,HM.out,N,U,G,F⟩ ?_
   rintro ⟨p,q⟩ w2 ⟨hI,am,an,N,U,G,F⟩;simp only at hI am an N;refine m7 (m:=[(0,.slice (some ⟨g,0,none⟩) xs.length cap),(1,.int .i64 0),(2,.int .i64 xs.length),(3,ZZ bx),(8,.int .i64 i),(9,.int .i64 p.length)]) ?_ sB;have rx:=N.row1 (Xu p x q r);have ar:=Rb p x q r;cases p with
   | nil=>
    have V:=hI.stop (λy r h=>by cases h) r;rw [<-HN.out] at V;rw [V] at N;refine eK ?_;refine Ap (λO=>Ext w2 O) 14 (.pure 0 (.pure 1 (.pure 2 (.pure 3 (.pure 4 (.pure 5 (.pure 6 (.pure 7 (.pure 8 (.pure 9 (.pure 10 (.pure 11 (.pure 12 (.pure 13 .tail)))))))))))))) mixed AR (Aa (Aa (Aa (Ae (Ae (Aa (Aa (Ae Ag)))))))) ?_;intro a4 au _;have ah:(λO=>Ext w2 O) a4:=au;simp only at ah;revert U G F N;refine eE au ?_;intro U G F N;refine ⟨ah,?_⟩;refine Tq rfl Mv (Tq rfl Mv (Tq rfl V5 (Tq rfl Mv (eM rfl (eM rfl (eM rfl (eM rfl (eM rfl (eM rfl (eM rfl (eM rfl ?_)))))))))));refine eM rfl (eM rfl ?_);refine Aq rfl (XV (XV (C1 ZO (cT (AO rfl (BF (Ay (Ay (AS (Ah (Ai ?_)))))))))));refine Ak (C1 Mv (C1 V7 (C1 Pa (Al ?_))));exact Av (i+1) sB ⟨Ab,Ab,N,U,G,F⟩ Ab
   | cons y p=>
    have ry:=N.row1 (Xv y p x q r);have a5:=NU y p x q r;have av:=fZ (HC.out x y a1 (an y AQ));have af:=a0 x y;have aw:∀z∈p,z∈Bj L:=λz hz=>an z (by simp [hz])
    have Y:kN .i64 ((p.length:Int)+1-1)=(p.length:Int):=by rw [Int.add_sub_cancel];exact gG _ (by simp only [gH] at am;omega)
    have HI:=fZ hI;have a6:=fZ aw;simp only [gH] at rx ar am;refine m7 (m:=[(0,.slice (some ⟨g,0,none⟩) xs.length cap),(1,.int .i64 0),(2,.int .i64 xs.length),(3,ZZ bx),(8,.int .i64 i),(9,.int .i64 ((p.length:Int)+1))]) ?_ sB;generalize ND L (GO es) x y=cv at *;by_cases ad:lt x y=true
    . rw [ad] at af;have a7:cv<0:=of_decide_eq_true af;have a8:=HI.out.step ad;generalize GW (y::p) x q r=row at *;refine eK ?_;refine Ap (λO=>Ext w2 O) 14 (.pure 0 (.pure 1 (.pure 2 (.pure 3 (.pure 4 (.pure 5 (.pure 6 (.pure 7 (.pure 8 (.pure 9 (.pure 10 (.pure 11 (.pure 12 (.pure 13 .tail)))))))))))))) mixed AR (Aa (Aa (Aa (Ae (Ae (Aa (Aa (Ae Ag)))))))) ?_;intro a9 ax _;have ai:(λO=>Ext w2 O) a9:=ax;simp only at ai;have Z:=rx;have aa:=ry;revert U G F rx ry N;refine eE ax ?_;intro U G F ry rx N;refine ⟨ai,?_⟩;refine Tq rfl Mv (Tq rfl Mv (Tq rfl V5 (Tq rfl Mv (eN rfl (Aw rfl) (eN rfl (Aw rfl) (eN rfl (Aw rfl) (eN rfl (AK Ac rfl rfl rfl rfl Ab Ab) (eN rfl (Ar Ac rfl rfl rfl (λO hz=>mE (mw Z hz) rfl)) (eN rfl (Aw rfl) (eN rfl (Aw rfl) (eN rfl (AL (c:=(p.length:Int)) rfl rfl Y) ?_)))))))))));refine eN rfl (AK Ac rfl rfl rfl rfl Ab Ab) (eN rfl (Ar Ac rfl rfl rfl (λO hz=>mE (mw aa hz) rfl)) ?_);refine Aq rfl (ZP ?_);refine Az (Bb (fi:=[]) (ca:=[.pointer (some ⟨bx,0,none⟩)]) AR rfl rfl (av.out _ Af Af) (λ_ _ h=>⟨_,h.1⟩)) rfl ?_ aFh;rintro _ ag ⟨⟨⟩,ba⟩;revert U G F rx ry N;refine eE ba ?_;intro U G F ry rx N;refine eK ?_;refine EK (λO=>Ext ag O) (λO=>Fr (λx=>x=g) ag O) [2,3,4,15,16,17] [2,3,4] 15 16 (.free 2 (.free 3 (.free 4 (.pure 0 (.pure 1 (.pure 5 (.pure 6 (.pure 7 (.pure 8 (.pure 9 (.pure 10 (.pure 11 (.pure 12 (.pure 13 (.pure 14 (.put 15 (.tail 16))))))))))))))))) (λ_ h=>mt h) mixed AR (Ae (Aa (Aa (Ae (Ae (Aa (Aa (Ae Ag)))))))) ?_;intro ay ao _;have ap:(λO=>Ext ag O) ay:=ao;simp only at ap;have ab:(λO=>Fr (λx=>x=g) ag O) ay:=mt ao;simp only at ab;have Z:=rx;have aa:=ry;revert U G F N;refine eE ao ?_;intro U G F N;refine Bl Af rfl (Aw rfl) rfl (Bl Af rfl (Aw rfl) rfl (Bl Af rfl (AL (c:=(p.length:Int)) rfl rfl Y) rfl (Ao Af rfl (Aw rfl) rfl (Ao Af rfl (Aw rfl) rfl (Ao Af rfl (Aw rfl) rfl (Ao Af rfl (Aw rfl) rfl (Ao Af rfl (AL (c:=(p.length:Int)) rfl rfl Y) rfl (Ao Af rfl (AK Ac rfl rfl rfl rfl Ab Ab) rfl ?_))))))));refine Ao Af rfl (Ar Ac rfl rfl rfl (λO hz=>mE (mw aa hz) rfl)) rfl (Ao Af rfl (Aw rfl) rfl (Ao Af rfl (Aw rfl) rfl ?_))
      refine Ao Af rfl (AK Ac rfl rfl rfl rfl Ab Ab) rfl (Ao Af rfl (Ar Ac rfl rfl rfl (λO hz=>mE (mw Z hz) rfl)) rfl (Ao Af rfl (AK Ac rfl rfl rfl rfl Ab Ab) rfl (Du rfl (FP (j:=p.length+1) (z:=y) Ac rfl rfl rfl rfl Af Ab) (BK ?_))));rintro _ bf ⟨bg,ac,bh⟩;have ab:=ab.fr ac Ab;have U:=nj U ac (λk hk e=>by (rcases hk with hk|hk;exact g1 (e▸hk);exact g2 (e▸hk)));have G:=mu G ac (λe=>g3 e.symm);have F:=F.fr ac Ab;refine ⟨Af,?_⟩;refine Dt rfl (C1 Pi (A9 (FP (j:=p.length) (z:=x) Ac rfl rfl rfl rfl Af (by rw [kj];omega)) (BK ?_)));rintro _ bi ⟨aj,ae,bj⟩;have U:=nj U ae (λk hk e=>by (rcases hk with hk|hk;exact g1 (e▸hk);exact g2 (e▸hk)));have G:=mu G ae (λe=>g3 e.symm);have F:=F.fr ae Ab;refine eK ?_;refine C1 (AL (c:=(p.length:Int)) rfl rfl Y) (C1 Pa (Al ?_));rw [a5] at aj;exact Av (p,y::q) sB ⟨a8,by simp only [gH];omega,a6.out,aj,U,G,F⟩ AQ
    . rw [Bool.not_eq_true] at ad;rw [ad] at af;have a7:¬cv<0:=of_decide_eq_false af;have V:=HI.out.stop (λy' r' h=>by simp only [iP] at h;rw [<-h.1];exact ad) r;rw [<-HN.out] at V;rw [V] at N;refine eK ?_;refine Ap (λO=>Ext w2 O) 14 (.pure 0 (.pure 1 (.pure 2 (.pure 3 (.pure 4 (.pure 5 (.pure 6 (.pure 7 (.pure 8 (.pure 9 (.pure 10 (.pure 11 (.pure 12 (.pure 13 .tail)))))))))))))) mixed AR (Aa (Aa (Aa (Ae (Ae (Aa (Aa (Ae Ag)))))))) ?_;intro bc az _;have ak:(λO=>Ext w2 O) bc:=az;simp only at ak;have Z:=rx;have aa:=ry;revert U G F N;refine eE az ?_;intro U G F N;refine ⟨ak,?_⟩;refine Tq rfl Mv (Tq rfl Mv (Tq rfl V5 (Tq rfl Mv (eN rfl (Aw rfl) (eN rfl (Aw rfl) (eN rfl (Aw rfl) (eN rfl (AK Ac rfl rfl rfl rfl Ab Ab) (eN rfl (Ar Ac rfl rfl rfl (λO hz=>mE (mw Z hz) rfl)) (eN rfl (Aw rfl) (eN rfl (Aw rfl) (eN rfl (AL (c:=(p.length:Int)) rfl rfl Y) ?_)))))))))));refine eN rfl (AK Ac rfl rfl rfl rfl Ab Ab) (eN rfl (Ar Ac rfl rfl rfl (λO hz=>mE (mw aa hz) rfl)) ?_);refine Aq rfl (ZP ?_);refine Az (Bb (fi:=[]) (ca:=[.pointer (some ⟨bx,0,none⟩)]) AR rfl rfl (av.out _ Af Af) (λ_ _ h=>⟨_,h.1⟩)) rfl ?_ aFh;rintro _ bn ⟨⟨⟩,bd⟩;revert U G F N;refine eE bd ?_;intro U G F N;refine ZP (C1 V3 (C1 Vs (cT (Vt (BF (Ay (Ay (AS (Ah (Ai (Ak ?_)))))))))));refine C1 Mv (C1 V7 (C1 Pa (Al ?_)))
      exact Av (i+1) sB ⟨Ab,Ab,N,U,G,F⟩ Ab
 . obtain rfl:i=xs.length:=by omega
   rw [Kl] at N;refine Aj (cS (C1 Mv (C1 Mv (C1 V3 (cT (Dd (BF (Ay (Ay (AS (Bi rfl ?_)))))))))));exact ⟨rfl,N,F⟩
set_option maxHeartbeats 8000000 in
def ZC (f:Value) (a:oA) (c:Nat) (w:wD):Calls prog 92 #[.slice a 0 c,.int .i64 0,.int .i64 0,f] w λe w'=>e = .returned (.tuple #[])/\Ext w w':=by
 have X:=Ne w;refine Ad func92 ntmps92 rfl rfl (cS (C1 Mv (C1 V7 (C1 Pa (cT ?_)))));refine As ?_;refine AF (ι:=Unit) (λ_=>[(2,.int .i64 0),(8,.int .i64 1)]) (λ_ w'=>Ext w w') (λ_=>0) () sB X ?_;rintro _ w1 X;refine Aj (cS (C1 Mv (C1 Mv (C1 V3 (cT (MS (BF (Ay (Ay (AS (Bi rfl ?_)))))))))));exact ⟨rfl,X⟩
def Ik (n:Nat) (h:n<=255) (w:wD):Calls prog 65 #[.int .u64 n] w λe w'=> ∃k:Int,e = .returned (.int .i64 k)/\Ext w w':=by
 have X:=Ne w;have G:Hid (∀w1,Calls prog 101 #[.int .u64 n] w1 λe w'=> ∃k:Int,e = .returned (.int .i64 k)/\Ext w1 w'):=fZ λw1=>(Tryz.bits_Len64 n w1 Ab Ab).mono λ_ _ ⟨M,h2⟩=>⟨_,M,by rw [h2];exact Ne _⟩
 refine Ad func65 ntmps65 rfl rfl (eK ?_);refine Az (AM AR rfl (G.out _) (λ_ _ ⟨_,h⟩=>⟨_,h.1⟩)) rfl ?_ aFh;rintro _ O ⟨U,⟨⟩,N⟩;have X:=X.ext N;refine kR ?_;exact ⟨_,rfl,X⟩
def bT (x y:Bf) (w:wD):Calls prog 131 #[str x,str y] w λe w'=>e = .returned (.bool (If x y))/\Ext w w':=by
 have X:=Ne w;unfold If;refine Ad func131 ntmps131 rfl rfl (kC (IT _ _) ?_);rintro _ G ⟨⟨⟩,h⟩;have X:=X.ext h;refine eK ?_;refine C1 (Gl rfl rfl) (kR ?_);exact ⟨rfl,X⟩
set_option maxHeartbeats 8000000 in
def Su (M X:nP) (O:Nat) (es:List EX) (he:es.length<=1000) (hp:∀e∈es,0<=e.points/\e.points<=1000) (L:List AtV) (hL:L.length<=1000000) (N g cap:Nat) (xs:List Bf) (hx:∀x∈xs,x∈Bj L) (hn:1<=xs.length/\xs.length<=12) (hg:¬X g /\ ¬M g/\g≠N) (w:wD) (U:BkAt M X w O es L) (G:Blk w N [.pointer (some ⟨O,0,none⟩)]) (V:ArrT w g xs) :
 Calls prog 35 #[.slice (some ⟨g,0,none⟩) xs.length cap,ZZ N] w λe w'=>e = .returned (.tuple #[])/\ArrT w' g (Ft (Nw L (GO es)) xs)/\Fr (· = g) w w':=by
 have HI:=fZ (λw1 h1 h2 h3=>bQ M X O es he hp L hL N g cap xs hx hn hg w1 h1 h2 h3);have HQ:Hid (∀(k:Int) w1,BkAt M X w1 O es L->Blk w1 N [.pointer (some ⟨O,0,none⟩)]->ArrT w1 g xs->Calls prog 64 #[.slice (some ⟨g,0,none⟩) xs.length cap,.int .i64 0,.int .i64 xs.length,.int .i64 k,ZZ N] w1 λe w'=>e = .returned (.tuple #[])/\ArrT w' g (Ft (Nw L (GO es)) xs)/\Fr (· = g) w1 w'):=fZ λk w1 U G V=>by
  have F:=mx (· = g) w1;refine Ad func64 ntmps64 rfl rfl (cS (C1 Pa (cN (C1 Pa (cT ?_)))));refine As ?_;refine AF (ι:=Unit) (λ_=>[(0,.slice (some ⟨g,0,none⟩) xs.length cap),(1,.int .i64 0),(2,.int .i64 xs.length),(3,.int .i64 k),(4,ZZ N)]) (λ_ w'=>ArrT w' g xs/\BkAt M X w' O es L/\Blk w' N [.pointer (some ⟨O,0,none⟩)]/\Fr (· = g) w1 w') (λ_=>0) () sB ⟨V,U,G,F⟩ ?_;rintro _ w2 ⟨V,U,G,F⟩;refine eK ?_;refine C1 (AL rfl rfl (gG _ Ab)) (kC (HI.out _ Af Af Af) ?_);rintro _ ab ⟨⟨⟩,ac,Y⟩;have F:=F.fr Y Ab;refine eK ?_;refine EA rfl ?_;exact ⟨rfl,Af,F⟩
 have F:=mx (· = g) w;refine Ad func35 ntmps35 rfl rfl (eK ?_);refine C1 (I8 Ac rfl rfl rfl (Jb _ Ab Ab)) (Az (AM AR rfl (Ik xs.length Ab _) (λ_ _ ⟨_,h⟩=>⟨_,h.1⟩)) rfl ?_ aFh);rintro _ ad ⟨ae,⟨⟩,Z⟩;revert U G V F;refine eE Z ?_;intro U G V F;refine C1 Mv (cC rfl (HQ.out _ _ Af Af Af) ?_);rintro _ af ⟨⟨⟩,ag,aa⟩;have F:=F.fr aa Ab;refine Al (Bi rfl ?_);exact ⟨rfl,Af,F⟩
set_option maxHeartbeats 8000000 in
def Rd (f:Value) (a:oA) (c:Nat) (w:wD):Calls prog 35 #[.slice a 0 c,f] w λe w'=>e = .returned (.tuple #[])/\Ext w w':=by
 have O:Hid (∀(k:Int) w1,Calls prog 64 #[.slice a 0 c,.int .i64 0,.int .i64 0,.int .i64 k,f] w1 λe w'=>e = .returned (.tuple #[])/\Ext w1 w'):=fZ λk w1=>by
  have X:=Ne w1;refine Ad func64 ntmps64 rfl rfl (cS (C1 Pa (cN (C1 Pa (cT ?_)))));refine As ?_;refine AF (ι:=Unit) (λ_=>[(0,.slice a 0 c),(1,.int .i64 0),(2,.int .i64 0),(3,.int .i64 k),(4,f)]) (λ_ w'=>Ext w1 w') (λ_=>0) () sB X ?_;rintro _ w2 X;refine eK ?_;refine C1 (AL rfl rfl (gG _ Ab)) (kC (ZC _ _ _ _) ?_);rintro _ U ⟨⟨⟩,G⟩;have X:=X.ext G;refine eK ?_;refine EA rfl ?_;exact ⟨rfl,X⟩
 have X:=Ne w;refine Ad func35 ntmps35 rfl rfl (eK ?_);refine C1 (I8 Ac rfl rfl rfl (Jb _ Ab Ab)) (Az (AM AR rfl (Ik 0 Ab _) (λ_ _ ⟨_,h⟩=>⟨_,h.1⟩)) rfl ?_ aFh);rintro _ V ⟨Y,⟨⟩,M⟩;have X:=X.ext M;refine C1 Mv (cC rfl (O.out _ _) ?_);rintro _ Z ⟨⟨⟩,N⟩;have X:=X.ext N;refine Al (Bi rfl ?_);exact ⟨rfl,X⟩
def Re (_:Nat) (_:wD) (vs:lV) (x:Bf):Prop:=vs=[str x]
def dR {vs:lV} {s:Bf} (h:Re G w vs s):∃u,vs=[u]:=⟨_,h⟩
def Xw (K p:List Bf):Prop:= ∃S:List Bf,S.Perm K/\p <+: S
def MM {α β:Type} (f:α->β):∀(l:List α) (j:Nat) (p:α),l[j]? = some p->(f p::(l.eraseIdx j).map f).Perm (l.map f)
 | [],j,p,h=>by simp at h
 | x::l,0,p,h=>by
  simp only [gX,gE] at h;subst h;simp
 | x::l,j+1,p,h=>by
  have:=MM f l j p (by simpa using h);simp only [List.eraseIdx_cons_succ,iO];exact (List.Perm.swap _ _ _).trans (this.cons _)
set_option maxHeartbeats 8000000 in
def ZD (m bm:Nat) (kvs:List (lB×Value)) (Rt:nP) (w:wD) (ad:∀k,Rt k->k<w.heap.size) (hR:Rt m/\Rt bm) (p1:Blk w bm [.map (some m)]) (p2:MapB w m kvs) :
 Jn prog 63 [.pointer (some ⟨bm,0,none⟩)] Re Rt (Xw (kvs.map (·.1))) (·.Perm (kvs.map (·.1))) w:=by
 intro y J Jx W hK hJ an hY h0;have ao:=hK.size;have p1:=p1.fr hK (λe=>e hR.2);have p2:=p2.fr hK (λe=>e hR.1);have ae:∀k,Rt k->k<W.heap.size:=λk G=>jN (ad k G) ao
 have HY:=fZ hY;have HJ:=fZ hJ;have H0:=fZ h0;have HR:=fZ ae;clear hY hJ an h0 ad ae hK;have X:=Ne W;show Calls _ _ #[.func (.yield y) #[] #[],.pointer (some ⟨bm,0,none⟩)] W _;refine Ad func63 ntmps63 rfl rfl ?_;refine eK ?_;refine Az (KQ Ac rfl rfl Af) rfl ?_ aFh;rintro _ w6 ⟨r1,rfl,h2,h3,h4,x5⟩;revert p1 p2 X;refine eY x5 ?_;intro z7 p1 p2 X;refine cT ?_;obtain ⟨A,hA⟩:∃A:nP,A=λk=>W.heap.size<=k/\k<w6.heap.size:=⟨_,rfl⟩
 have Y:∀k,A k->W.heap.size<=k/\k<w6.heap.size:=λk G=>by rw [hA] at G;exact G
 have af:A r1:=by rw [hA];exact ⟨h2,h3⟩
 have hj:J A [] w6:=HJ.out (λ_=>False) A [] W w6 H0.out ⟨X.os,X.tape,X.output,X.size,λk G _=>X.block G⟩ (λ_ h=>h.elim) (λk G=>(Y k G).1) (λk G h=>by have:=Y k h;omega);have hz:=X.size;clear hA p1 p2 H0 X;refine As ?_;refine AF (ι:=List (lB×Value)×List Bf×(nP)) (λ_=>[(0,.func (.yield y) #[] #[]),(5,.pointer (some ⟨r1,0,none⟩))])
  (λx w'=> ∃cur,ItM w' r1 m x.1 cur/\(x.2.1++x.1.map (·.1)).Perm (kvs.map (·.1))/\J x.2.2 x.2.1 w'/\x.2.2 r1/\(∀k,x.2.2 k->W.heap.size<=k/\k<w'.heap.size)/\W.heap.size<=w'.heap.size) (λx=>x.1.length) (kvs,[],A) sB ⟨none,h4,AQ,hj,af,Y,hz⟩ ?_
 clear h4 hj af Y hz;rintro ⟨M,pre,B⟩ w7 ⟨cur,h4,hp,hj,hB,Z,hz⟩;simp only at h4 hp hj hB Z;cases M with
 | nil=>
  rw [lg,lw] at hp;have X:=Ne w7;refine cS ?_;refine Az (KR rfl Af) rfl ?_ aFh;rintro _ ax ⟨rfl,rfl⟩;refine C1 Px (cT (Aj (AO rfl (BF (Ay (Ay (AS (Bi rfl ?_))))))));exact ⟨⟨_,rfl⟩,B,λk h=>(Z k h).1,gA ⟨pre,hp,Af⟩⟩
 | cons q0 ag=>
  generalize ah:q0::ag=M at *;have ai:M≠[]:=by rw [<-ah];simp
  have F:=mx (· = r1) w7;have ay:=h4.lt;refine cS ?_;refine Az (Mb rfl Af ai) rfl ?_ aFh;rintro _ O ⟨U,N,aa,rfl,ap,aj⟩;have az:=aj.size;have F:=F.fr aj Ab;refine eK ?_;refine C1 (Nz rfl (λwz hz=>by rw [show wz=_ from hz];assumption)) (C1 Px (C1 Pa (cT ?_)));have ab:=MM (·.1) M U N aa;have aq:(M.eraseIdx U).length<M.length:=by
   have:=(List.getElem?_eq_some_iff.1 aa).1;rw [List.length_eraseIdx];split<;>omega
  have a0:=F.size;obtain ⟨C,hC⟩:∃C:nP,C=λk=>B k\/(w7.heap.size<=k/\k<O.heap.size):=⟨_,rfl⟩
  have ak:∀k,B k->C k:=λk G=>by rw [hC];exact gA G
  have V:∀k,C k->W.heap.size<=k/\k<O.heap.size:=λk G=>by
   rw [hC] at G;rcases G with G|G
   . have:=Z k G;omega
   . omega
  have ar:J C pre O:=HJ.out B C pre w7 O hj (F.weaken λk (e:k=r1)=>by subst e;exact hB) (λk G=>(Z k G).1) (λk G=>(V k G).1) (λk G h=>by rw [hC] at h;exact h.elim id (λh=>by omega));have al:Xw (kvs.map (·.1)) (pre++[N.1]):=⟨_,(show (pre++[N.1]++(M.eraseIdx U).map (·.1)).Perm _ by rw [iG];exact (List.Perm.append_left pre ab).trans hp),List.prefix_append _ _⟩
  have au:(pre++[N.1]++(M.eraseIdx U).map (·.1)).Perm (kvs.map (·.1)):=by rw [iG];exact (List.Perm.append_left pre ab).trans hp
  clear hC hj hp ab aa F ah ai;refine Aj (dM ?_);refine Tr rfl (Aw rfl) rfl ?_;refine Tr rfl (Aw rfl) rfl ?_;refine LM rfl rfl (HY.out C pre N.1 [str N.1] O V ar rfl al) (λ_ _ h=>by obtain ⟨-,⟨h,-⟩|⟨h,-⟩⟩:=h<;>exact ⟨_,h⟩) rfl ?_;rintro v w8 ⟨am,av⟩;refine VT (λ⟨_,_,h⟩=>by obtain ⟨⟨_,h⟩,-⟩:=(show (∃v,Ending.outgrown = .returned v)/\_ from h);cases h) rfl ?_;have aw:=ap.fr am ⟨λe=>e (gA (ak _ hB)),λe=>e (gB hR.1)⟩;have a1:=am.size;rcases av with ⟨⟨⟩,ac⟩|⟨⟨⟩,ac⟩
  . refine C1 Pt (cT (AO rfl (Am (Ah ?_))));exact Av (M.eraseIdx U,pre++[N.1],C) sB ⟨_,aw,au,ac,ak _ hB,λk G=>⟨(V k G).1,by have:=(V k G).2;omega⟩,Ab⟩ aq
  . refine eK ?_;refine EA rfl ?_;exact ⟨⟨_,rfl⟩,C,λk h=>(V k h).1,gB ⟨_,al,ac⟩⟩
def KeysR (K:List Bf) (m:Nat) (w:wD):Ending->wD->Prop:=λe w'=> ∃bm,e = .returned (.func (.func 63) #[] #[.pointer (some ⟨bm,0,none⟩)]) /\
 Jn prog 63 [.pointer (some ⟨bm,0,none⟩)] Re (λk=>k=m\/k=bm) (Xw K) (·.Perm K) w'/\m<w'.heap.size/\w.heap.size<=bm/\bm<w'.heap.size/\Ext w w'
def KeysR.ret {K:List Bf} {m:Nat} (h:KeysR K m w e w'):∃v,e = .returned v:=by
 obtain ⟨_,h,-⟩:=h;exact ⟨_,h⟩
set_option maxHeartbeats 8000000 in
def bU (m:Nat) (kvs:List (lB×Value)) (w:wD) (h:MapB w m kvs) :
 Calls prog 34 #[.map (some m)] w (KeysR (kvs.map (·.1)) m w):=by
 have X:=Ne w;have M:=h.lt;refine Ad func34 ntmps34 rfl rfl (cS (eB [_] ?_));intro U V G N Y Z;revert h X;refine eE N ?_;intro h X;refine eK ?_;refine C1 (BW rfl) (kR ?_);have O:=G.lt;exact ⟨_,rfl,ZD m _ kvs _ _ (λk hk=>by omega) ⟨gA rfl,gB rfl⟩ G Af,Ab,Ab,Ab,X⟩
def NamsR (F:List Bf->Prop) (w:wD):Ending->wD->Prop:=λe w'=> ∃a c xs,e = .returned (.slice a xs.length c)/\F xs/\OwnQ strShape w' (λ_=>False) w.heap.size 9 (.slice a xs.length c) xs/\Ext w w'
def NamsR.ret {F:List Bf->Prop} (h:NamsR F w e w'):∃v,e = .returned v:=by
 obtain ⟨_,_,_,h,-⟩:=h;exact ⟨_,h⟩
set_option maxHeartbeats 8000000 in
def Xx (gf:Nat) (lb:lV) (eg:BU prog gf=true) (Rt:nP) (ag Fin:List Bf->Prop) (hN:∀p,ag p->p.length<=1000000) (w:wD) (am:∀k,Rt k->k<w.heap.size) (an:∀w1,Ext w w1->Jn prog gf lb Re Rt ag Fin w1) :
 Calls prog 90 #[.slice none 0 0,.func (.func gf) #[] lb.toArray] w (NamsR Fin w):=by
 have HI:=fZ an;have HN:=fZ hN;have HR:=fZ am;have X:=Ne w;refine Gf (args:=[_,_]) func90 ntmps90 rfl rfl (cS (eB [_] ?_));intro b1 w2 h4 x5 p6 z7;replace X:=X.ext x5;refine C1 Pa (cT (Aj (cS (C1 Mv (cT ?_)))));refine As ?_;refine MG rfl rfl eg (HI.out _ X) (λ_ _ _ _ h=>dR h) (λk G=>by have:=HR.out k G;have:=X.size;omega)
  (λA xs W=> ∃N O,xs.length<=1000000/\Blk W b1 [.slice N xs.length O]/\OwnQ strShape W (λ_=>False) w.heap.size 9 (.slice N xs.length O) xs/\(∀g,(iA N xs.length O).ownBlock=some g -> ¬A g/\w2.heap.size<=g)/\Ext w W)
  (λ_ _ _=>False) ?_ (λ_ _ _ _ _ h=>h.elim) ⟨none,0,gI _,h4,ni,λg U=>by simp [kw] at U,X⟩ ?_ ?_ (λ_ _ _ _ _ h=>h.elim)
 . rintro A A' xs W W' ⟨N,O,h0,h1,h2,h3,x⟩ hf hA-ao;exact ⟨N,O,h0,h1.fr hf (λe=>by have:=hA _ e;omega),h2.fr hf (λk G=>⟨id,λe=>(h3 k e).1 G⟩),λg U=>⟨λe=>(h3 g U).1 (ao g (h2.lt U) e),(h3 g U).2⟩,mI x hf (λk G=>by have:=hA _ G;omega)⟩
 . rintro r A pre x u W hA ah ⟨N,O,ap,j1,j2,j3,V⟩ eu ai;obtain rfl:u=str x:=by simpa [Re] using eu
   have M:∀g,(iA N pre.length O).ownBlock=some g -> ¬A g/\w2.heap.size<=g/\g<W.heap.size:=λg U=>⟨(j3 g U).1,(j3 g U).2,j2.lt U⟩
   have ae:=HN.out _ ai;rw [gR] at ae;simp only [gH,iM] at ae;have aw:=hA _ ah;have X1:=Ne W;refine Br rfl Gg (C1 Pa (Al (Ic (Keeps.of_ext X1) λW2 f2=>?_)))
   replace j1:=j1.fr f2 Ab;replace j2:=j2.fr f2 (λk e=>⟨id,λh=>(M k h).1 (e▸ah)⟩);replace V:=mI V f2 (λk G=>by omega);have ax:=f2.size;have aj:=fZ (show ∀k,A k->w2.heap.size<=k/\k<W2.heap.size from λk G=>by have:=hA k G;omega);have X3:=mx (λk=>k=b1\/(iA N pre.length O).ownBlock=some k) W2;have hK:Hid (∀k,A k\/Rt k -> ¬(k=b1\/(iA N pre.length O).ownBlock=some k)):=fZ λk G h=>by
    rcases h with h|h
    . rcases G with G|G
      . have:=aj.out k G;omega
      . have:=HR.out k G;omega
    . rcases G with G|G
      . exact (M k h).1 G
      . have:=M k h;have:=HR.out k G;omega
   refine Ge (Br rfl (Bz BV) (eK ?_));refine Az (C3 [_] Ac Ca rfl rfl rfl rfl rfl rfl rfl rfl rfl) rfl ?_ aFh;rintro _ ay ⟨az,rfl,aa,a0⟩;have a1:=aa.blk;have aq:=aa.ext;have a2:=aa.pos;have a3:=aa.size;revert j1 j2 V X3;refine eE aq ?_;intro j1 j2 V X3;refine C9 (R:=λ_=>False) (sh:=strShape) (z:=x) Ac Ca rfl rfl rfl rfl AR rfl rfl rfl Af (λ_ h=>by exact h) (mJ Af) rfl Ab Ab rfl ?_;rintro af Y ar ab ac au Z;replace j1:=mu j1 Z (λh=>by have:=M _ h;omega);replace V:=mI V Z (λk G=>by have:=M _ G;omega);replace X3:=mB X3 Z (λk G=>gA (gB G));refine eS [_] j1 ?_;intro av ak ad _;replace ab:=nx ab ad (λk G=>⟨id,λe=>by (obtain rfl:=gJ (show some af=some k from e);rcases ac with h|h;have:=M _ h;omega;omega)⟩);revert V X3;refine eF ad ?_;intro V X3;refine Al (Ah (IQ (ny X3 hK.out) ⟨some ⟨af,0,none⟩,Y,by rw [gR];simpa using ae,ak,Af,λg U=>?_,V⟩));obtain rfl:=gJ (show some af=some g from U);rcases ac with h|h
   . exact ⟨(M _ h).1,(M _ h).2.1⟩
   . exact ⟨λhA=>by have:=aj.out _ hA;omega,Ab⟩
 . rintro A S W hS hA ⟨N,O,ap,j1,j2,j3,V⟩ hm G;refine Id (Dw (H7 (Ep (Fs (Ar Ac rfl rfl rfl (λwz hz=>by rw [show wz=W from hz];exact j1.cell rfl)) rfl (Fs (Gs rfl) rfl (GI (Dw (Jr (PY G rfl rfl (λw3 al=>?_))))))))));exact ⟨N,O,S,rfl,hS,j2.fr al (λk e=>⟨id,λh=>(j3 k h).1 (e▸hm)⟩),mI V al (λk e=>by omega)⟩
def U9 (G:Nat) (M:lV) (Y:BU prog G=true) (N:nP) (h Fin:List Bf->Prop) (Z:∀p,h p->p.length<=1000000) (w:wD) (O:∀k,N k->k<w.heap.size) (U:∀w1,Ext w w1->Jn prog G M Re N h Fin w1) :
 Calls prog 61 #[.func (.func G) #[] M.toArray] w (NamsR Fin w):=by
 have X:=Ne w;have HA:=fZ (λw1 (x:Ext w w1)=>Xx G M Y N h Fin Z w1 (λk V=>by have:=O k V;have:=x.size;omega) (λw2 x2=>U w2 (x.trans x2)));refine Ad func61 ntmps61 rfl rfl (kQ (HA.out _ Af) ?_);rintro _ w7 ⟨a1,c2,aa,⟨⟩,h4,h5,x6⟩;have X:=X.ext x6;refine kR ?_;exact ⟨_,_,_,rfl,Af,OwnQ.below Af (λk V=>by have:=nB Af V;omega),X⟩
set_option maxHeartbeats 8000000 in
def bW (g cap:Nat) (xs:List Bf) (hn:1<=xs.length/\xs.length<=12) (w:wD) (G:ArrT w g xs) :
 Calls prog 125 #[.slice (some ⟨g,0,none⟩) xs.length cap,.int .i64 0,.int .i64 xs.length] w λe w'=>e = .returned (.tuple #[])/\ArrT w' g (Ft If xs)/\Fr (· = g) w w':=by
 have F:=mx (· = g) w;have HC:=fZ (λs t w1=>bT s t w1);generalize If=lt at *;refine Ad func125 ntmps125 rfl rfl (cS (C1 Mv (C1 V7 (C1 Pa (cT ?_)))));refine As ?_;refine AF (ι:=Nat) (λi=>[(0,.slice (some ⟨g,0,none⟩) xs.length cap),(1,.int .i64 0),(2,.int .i64 xs.length),(6,.int .i64 i)])
  (λi w'=>1<=i/\i<=xs.length/\ArrT w' g (MK lt xs i)/\Fr (· = g) w w') (λi=>xs.length-i) 1 sB ⟨gP _,hn.1,by rw [ML hn.1];exact G,F⟩ ?_
 rintro i w1 ⟨a7,hi,G,F⟩;by_cases ai:i<xs.length
 . have aq:=Kk (lt:=lt) (xs.take i);rw [iE] at aq;have ar:=NV (lt:=lt) ai;rw [Rc ai] at G;have a8:(xs.drop (i+1)).length=xs.length-(i+1):=ky ..;have HN:=fZ ar;generalize a9:FO lt (xs.take i)=acc at *;generalize xs.drop (i+1)=r at *;generalize xs[i]=x at *;refine Aj (cS (C1 Mv (C1 Mv (C1 V3 (cT (Ll (Am (Ai (Aj (As (cS (C1 Mv (C1 Pa (cT ?_))))))))))))));refine As ?_;refine AF (ι:=List Bf×List Bf) (λz=>[(0,.slice (some ⟨g,0,none⟩) xs.length cap),(1,.int .i64 0),(2,.int .i64 xs.length),(6,.int .i64 i),(7,.int .i64 z.1.length)])
    (λz w'=>InsI lt x acc z.1 z.2/\z.1.length+z.2.length=i/\ArrT w' g (GW z.1 x z.2 r)/\Fr (· = g) w w') (λz=>z.1.length) (acc,[]) (by (refine An rfl ?_;refine An rfl ?_;refine An rfl ?_;refine An rfl ?_;refine BO rfl (by go_num) ?_;exact BE)) ⟨InsI.first x acc,by simp only [iM];omega,G,F⟩ ?_
   rintro ⟨p,q⟩ w2 ⟨hI,af,G,F⟩;simp only at hI af G;refine m7 (m:=[(0,.slice (some ⟨g,0,none⟩) xs.length cap),(1,.int .i64 0),(2,.int .i64 xs.length),(6,.int .i64 i),(7,.int .i64 p.length)]) ?_ sB;have rx:=G.row1 (Xu p x q r);have aj:=Rb p x q r;cases p with
   | nil=>
    have N:=hI.stop (λy r h=>by cases h) r;rw [<-HN.out] at N;rw [N] at G;refine eK ?_;refine Ap (λM=>Ext w2 M) 13 (.pure 0 (.pure 1 (.pure 2 (.pure 3 (.pure 4 (.pure 5 (.pure 6 (.pure 7 (.pure 8 (.pure 9 (.pure 10 (.pure 11 (.pure 12 .tail))))))))))))) mixed AR (Aa (Aa (Aa (Ae (Ae (Aa (Aa (Ae Ag)))))))) ?_;intro au ak _;have ac:(λM=>Ext w2 M) au:=ak;simp only at ac;revert F G;refine eE ak ?_;intro F G;refine ⟨ac,(Tq rfl Mv (Tq rfl Mv (Tq rfl V5 (Tq rfl Mv (eM rfl (eM rfl (eM rfl (eM rfl (eM rfl (eM rfl (eM rfl (eM rfl (eM rfl (Aq rfl (XV (C1 ZO (cT (AO rfl (BF (Ay (Ay (AS (Ah (Ai (Ak (C1 Mv (C1 V7 (C1 Pa (Al ?_)))))))))))))))))))))))))))))⟩;exact Av (i+1) sB ⟨Ab,Ab,G,F⟩ Ab
   | cons y p=>
    have ry:=G.row1 (Xv y p x q r);have av:=NU y p x q r;have aa:=fZ (HC.out x y);have O:kN .i64 ((p.length:Int)+1-1)=(p.length:Int):=by rw [Int.add_sub_cancel];exact gG _ (by simp only [gH] at af;omega)
    have HI:=fZ hI;simp only [gH] at rx aj af;refine m7 (m:=[(0,.slice (some ⟨g,0,none⟩) xs.length cap),(1,.int .i64 0),(2,.int .i64 xs.length),(6,.int .i64 i),(7,.int .i64 ((p.length:Int)+1))]) ?_ sB;by_cases Y:lt x y=true
    . have aw:=HI.out.step Y;rw [Y] at aa;generalize GW (y::p) x q r=row at *;refine eK ?_;refine Ap (λM=>Ext w2 M) 13 (.pure 0 (.pure 1 (.pure 2 (.pure 3 (.pure 4 (.pure 5 (.pure 6 (.pure 7 (.pure 8 (.pure 9 (.pure 10 (.pure 11 (.pure 12 .tail))))))))))))) mixed AR (Aa (Aa (Aa (Ae (Ae (Aa (Aa (Ae Ag)))))))) ?_;intro ax al _;have ad:(λM=>Ext w2 M) ax:=al;simp only at ad;have U:=rx;have V:=ry;revert F rx ry G;refine eE al ?_;intro F ry rx G;refine ⟨ad,(Tq rfl Mv (Tq rfl Mv (Tq rfl V5 (Tq rfl Mv (eN rfl (Aw rfl) (eN rfl (Aw rfl) (eN rfl (AK Ac rfl rfl rfl rfl Ab Ab) (eN rfl (Ar Ac rfl rfl rfl (λM Z=>mE (mw U Z) rfl)) (eN rfl (Aw rfl) (eN rfl (Aw rfl) (eN rfl (AL (c:=(p.length:Int)) rfl rfl O) (eN rfl (AK Ac rfl rfl rfl rfl Ab Ab) (eN rfl (Ar Ac rfl rfl rfl (λM Z=>mE (mw V Z) rfl)) (Aq rfl (ZP (cC rfl (aa.out _) ?_))))))))))))))))⟩;rintro _ ab ⟨⟨⟩,ay⟩;revert F rx ry G;refine eE ay ?_;intro F ry rx G;refine eK ?_;refine EK (λM=>Ext ab M) (λM=>Fr (λx=>x=g) ab M) [2,3,4,15,16,17] [2,3,4] 15 16 (.free 2 (.free 3 (.free 4 (.pure 0 (.pure 1 (.pure 5 (.pure 6 (.pure 7 (.pure 8 (.pure 9 (.pure 10 (.pure 11 (.pure 12 (.pure 13 (.pure 14 (.put 15 (.tail 16))))))))))))))))) (λ_ h=>mt h) mixed AR (Ae (Aa (Aa (Ae (Ae (Aa (Aa (Ae Ag)))))))) ?_;intro am ag _;have ah:(λM=>Ext ab M) am:=ag;simp only at ah;have X:(λM=>Fr (λx=>x=g) ab M) am:=mt ag;simp only at X;have U:=rx;have V:=ry;revert F G;refine eE ag ?_;intro F G;refine Bl Af rfl (Aw rfl) rfl (Bl Af rfl (Aw rfl) rfl (Bl Af rfl (AL (c:=(p.length:Int)) rfl rfl O) rfl (Ao Af rfl (Aw rfl) rfl (Ao Af rfl (Aw rfl) rfl (Ao Af rfl (Aw rfl) rfl (Ao Af rfl (Aw rfl) rfl (Ao Af rfl (AL (c:=(p.length:Int)) rfl rfl O) rfl (Ao Af rfl (AK Ac rfl rfl rfl rfl Ab Ab) rfl ?_))))))));refine Ao Af rfl (Ar Ac rfl rfl rfl (λM Z=>mE (mw V Z) rfl)) rfl (Ao Af rfl (Aw rfl) rfl (Ao Af rfl (Aw rfl) rfl ?_))
      refine Ao Af rfl (AK Ac rfl rfl rfl rfl Ab Ab) rfl (Ao Af rfl (Ar Ac rfl rfl rfl (λM Z=>mE (mw U Z) rfl)) rfl (Ao Af rfl (AK Ac rfl rfl rfl rfl Ab Ab) rfl (Du rfl (FP (j:=p.length+1) (z:=y) Ac rfl rfl rfl rfl Af Ab) (BK ?_))));rintro _ a1 ⟨a2,an,a3⟩;revert X F;refine eF an ?_;intro X F;refine ⟨Af,(Dt rfl (C1 Pi (A9 (FP (j:=p.length) (z:=x) Ac rfl rfl rfl rfl Af (by rw [kj];omega)) (BK ?_))))⟩;rintro _ a4 ⟨a5,ao,a6⟩;have F:=F.fr ao Ab;refine eK ?_;refine C1 (AL (c:=(p.length:Int)) rfl rfl O) (C1 Pa (Al ?_));exact Av (p,y::q) sB ⟨aw,by simp only [gH];omega,by rw [<-av];assumption,F⟩ AQ
    . rw [Bool.not_eq_true] at Y;rw [Y] at aa;have N:=HI.out.stop (λy' r' h=>by simp only [iP] at h;rw [<-h.1];exact Y) r;rw [<-HN.out] at N;rw [N] at G;refine eK ?_;refine Ap (λM=>Ext w2 M) 13 (.pure 0 (.pure 1 (.pure 2 (.pure 3 (.pure 4 (.pure 5 (.pure 6 (.pure 7 (.pure 8 (.pure 9 (.pure 10 (.pure 11 (.pure 12 .tail))))))))))))) mixed AR (Aa (Aa (Aa (Ae (Ae (Aa (Aa (Ae Ag)))))))) ?_;intro az ap _;have ae:(λM=>Ext w2 M) az:=ap;simp only at ae;have U:=rx;have V:=ry;revert F G;refine eE ap ?_;intro F G;refine ⟨ae,(Tq rfl Mv (Tq rfl Mv (Tq rfl V5 (Tq rfl Mv (eN rfl (Aw rfl) (eN rfl (Aw rfl) (eN rfl (AK Ac rfl rfl rfl rfl Ab Ab) (eN rfl (Ar Ac rfl rfl rfl (λM Z=>mE (mw U Z) rfl)) (eN rfl (Aw rfl) (eN rfl (Aw rfl) (eN rfl (AL (c:=(p.length:Int)) rfl rfl O) (eN rfl (AK Ac rfl rfl rfl rfl Ab Ab) (eN rfl (Ar Ac rfl rfl rfl (λM Z=>mE (mw V Z) rfl)) (Aq rfl (ZP (cC rfl (aa.out _) ?_))))))))))))))))⟩;rintro _ ba ⟨⟨⟩,a0⟩;revert F G;refine eE a0 ?_;intro F G;refine C1 Vs (cT (AO rfl (BF (Ay (Ay (AS (Ah (Ai (Ak (C1 Mv (C1 V7 (C1 Pa (Al ?_)))))))))))))
      exact Av (i+1) sB ⟨Ab,Ab,G,F⟩ Ab
 . obtain rfl:i=xs.length:=by omega
   rw [Kl] at G;refine Aj (cS (C1 Mv (C1 Mv (C1 V3 (cT (Dd (BF (Ay (Ay (AS (Bi rfl ?_)))))))))));exact ⟨rfl,G,F⟩
def NamAt (S:nP) (w:wD) (xs:List Bf) (a:oA):Prop:=xs=[] \/ ∃g,a=some ⟨g,0,none⟩/\S g/\ArrT w g xs
def NamAt.ext {S:nP} {w w':wD} {xs:List Bf} {a:oA} (h:NamAt S w xs a) (x:Ext w w'):NamAt S w' xs a:=h.imp id λ⟨g,h1,h2,h3⟩=>⟨g,h1,h2,h3.ext x⟩
instance:LfE w w' (NamAt S w xs a) (NamAt S w' xs a):=⟨λx h=>Bk.NamAt.ext h x⟩
def Z0:∀xs:List Bf,(xs.map λx=>[str x]).flatten=xs.map str
 | []=>rfl
 | x::r=>by simp only [iO,kG,Z0 r];rfl
def OwnQ.namAt {R:nP} {B e:Nat} {n c:Nat} (h:OwnQ strShape w R B e (.slice a n c) xs):NamAt (λb=>B<=b/\b<w.heap.size) w xs a:=by
 by_cases N:xs=[]
 . exact gA N
 . obtain ⟨G,U,V,X⟩:=h.ex;have M:=λk Y=>h.lt (k:=k) Y
   obtain ⟨h4,⟨h5,Z⟩|⟨g,cap,cur,O,hg,hh,-,-,-,h7⟩⟩:=U
   . exact absurd (kq Z) N
   . simp only [iF] at O;obtain ⟨rfl,-,-⟩:=O;refine gB ⟨g,rfl,⟨hg,M g rfl⟩,cur.toList.drop (xs.length*strShape.sz),e,?_⟩;have e1:G=xs.map λx=>[str x]:=by
      refine mm (by simp [V]) λi hi aa=>?_
      rw [lj];exact X i xs[i] G[i] (fY Ab) (fY hi)
     have e2:G.flatten=xs.map str:=by rw [e1,Z0]
     rw [<-e2,<-h7,iT];exact hh
def NamR (xs:List Bf) (w:wD):Ending->wD->Prop:=λe w'=> ∃a c,e = .returned (.slice a xs.length c)/\NamAt (λb=>w.heap.size<=b/\b<w'.heap.size) w' xs a/\Ext w w'
def NamR.ret (h:NamR xs w e w'):∃v,e = .returned v:=by
 obtain ⟨_,_,h,-⟩:=h;exact ⟨_,h⟩
def NW {α:Type} (lt:α->α->Bool) (l:List α):(Ft lt l).length=l.length:=by
 rw [<-Kl];unfold MK;simp [Kk]
set_option maxHeartbeats 8000000 in
def bX (g cap:Nat) (xs:List Bf) (U:1<=xs.length/\xs.length<=12) (w:wD) (G:ArrT w g xs) :
 Calls prog 62 #[.slice (some ⟨g,0,none⟩) xs.length cap] w λe w'=>e = .returned (.tuple #[])/\ArrT w' g (Ft If xs)/\Fr (· = g) w w':=by
 have V:=fZ (λw1 h=>bW g cap xs U w1 h);have X:Hid (∀(k:Int) w1,ArrT w1 g xs->Calls prog 91 #[.slice (some ⟨g,0,none⟩) xs.length cap,.int .i64 0,.int .i64 xs.length,.int .i64 k] w1 λe w'=>e = .returned (.tuple #[])/\ArrT w' g (Ft If xs)/\Fr (· = g) w1 w'):=fZ λk w1 G=>by
  have F:=mx (· = g) w1;refine Ad func91 ntmps91 rfl rfl (cS (C1 Pa (cN (C1 Pa (cT ?_)))));refine As ?_;refine AF (ι:=Unit) (λ_=>[(0,.slice (some ⟨g,0,none⟩) xs.length cap),(1,.int .i64 0),(2,.int .i64 xs.length),(3,.int .i64 k)]) (λ_ w'=>ArrT w' g xs/\Fr (· = g) w1 w') (λ_=>0) () sB ⟨G,F⟩ ?_;rintro _ w2 ⟨G,F⟩;refine eK ?_;refine C1 (AL rfl rfl (gG _ Ab)) (kC (V.out _ Af) ?_);rintro _ Y ⟨⟨⟩,Z,M⟩;have F:=F.fr M Ab;refine eK ?_;refine EA rfl ?_;exact ⟨rfl,Af,F⟩
 have F:=mx (· = g) w;refine Ad func62 ntmps62 rfl rfl (eK ?_);refine C1 (I8 Ac rfl rfl rfl (Jb _ Ab Ab)) (Az (AM AR rfl (Ik xs.length Ab _) (λ_ _ ⟨_,h⟩=>⟨_,h.1⟩)) rfl ?_ aFh);rintro _ aa ⟨ab,⟨⟩,N⟩;revert G F;refine eE N ?_;intro G F;refine cC rfl (X.out _ _ Af) ?_;rintro _ ac ⟨⟨⟩,ad,O⟩;have F:=F.fr O Ab;refine Al (Bi rfl ?_);exact ⟨rfl,Af,F⟩
set_option maxHeartbeats 8000000 in
def ZE (a:oA) (c:Nat) (w:wD):Calls prog 62 #[.slice a 0 c] w λe w'=>e = .returned (.tuple #[])/\Ext w w':=by
 have O:Hid (∀w1,Calls prog 125 #[.slice a 0 c,.int .i64 0,.int .i64 0] w1 λe w'=>e = .returned (.tuple #[])/\Ext w1 w'):=fZ λw1=>by
  have X:=Ne w1;refine Ad func125 ntmps125 rfl rfl (cS (C1 Mv (C1 V7 (C1 Pa (cT ?_)))));refine As ?_;refine AF (ι:=Unit) (λ_=>[(2,.int .i64 0),(6,.int .i64 1)]) (λ_ w'=>Ext w1 w') (λ_=>0) () sB X ?_;rintro _ U X;refine Aj (cS (C1 Mv (C1 Mv (C1 V3 (cT (MS (BF (Ay (Ay (AS (Bi rfl ?_)))))))))));exact ⟨rfl,X⟩
 have V:Hid (∀(k:Int) w1,Calls prog 91 #[.slice a 0 c,.int .i64 0,.int .i64 0,.int .i64 k] w1 λe w'=>e = .returned (.tuple #[])/\Ext w1 w'):=fZ λk w1=>by
  have X:=Ne w1;refine Ad func91 ntmps91 rfl rfl (cS (C1 Pa (cN (C1 Pa (cT ?_)))));refine As ?_;refine AF (ι:=Unit) (λ_=>[(0,.slice a 0 c),(1,.int .i64 0),(2,.int .i64 0),(3,.int .i64 k)]) (λ_ w'=>Ext w1 w') (λ_=>0) () sB X ?_;rintro _ U X;refine eK ?_;refine C1 (AL rfl rfl (gG _ Ab)) (kC (O.out _) ?_);rintro _ Y ⟨⟨⟩,G⟩;have X:=X.ext G;refine eK ?_;refine EA rfl ?_;exact ⟨rfl,X⟩
 have X:=Ne w;refine Ad func62 ntmps62 rfl rfl (eK ?_);refine C1 (I8 Ac rfl rfl rfl (Jb _ Ab Ab)) (Az (AM AR rfl (Ik 0 Ab _) (λ_ _ ⟨_,h⟩=>⟨_,h.1⟩)) rfl ?_ aFh);rintro _ Z ⟨aa,⟨⟩,M⟩;have X:=X.ext M;refine cC rfl (V.out _ _) ?_;rintro _ ab ⟨⟨⟩,N⟩;have X:=X.ext N;refine Al (Bi rfl ?_);exact ⟨rfl,X⟩
set_option maxHeartbeats 8000000 in
def Xy (Y:Nat) (Z:lV) (eg:BU prog Y=true) (Rt:nP) (M Fin:List Bf->Prop) (hN:∀p,M p->p.length<=1000000) (hF:∀p,Fin p->p.length<=12) (T:List Bf) (O:∀p,Fin p->Ft If p=T) (w:wD) (aa:∀k,Rt k->k<w.heap.size) (ab:∀w1,Ext w w1->Jn prog Y Z Re Rt M Fin w1) :
 Calls prog 33 #[.func (.func Y) #[] Z.toArray] w (NamR T w):=by
 have X:=Ne w;have HA:=fZ (λw1 (x:Ext w w1)=>U9 Y Z eg Rt M Fin hN w1 (λk hk=>by have:=aa k hk;have:=x.size;omega) (λw2 x2=>ab w2 (x.trans x2)));have HF:=fZ hF;have HT:=fZ O;refine Ad func33 ntmps33 rfl rfl (kQ (HA.out _ Af) ?_);rintro _ w7 ⟨a1,c2,N,⟨⟩,h4,h5,x6⟩;have X:=X.ext x6;refine C1 Pa (cT ?_);have ac:=HF.out _ h4;have O:=HT.out _ h4;have ad:=h5.namAt;by_cases hx:N=[]
 . subst hx;have ae:T=[]:=by rw [<-O];rfl
   subst ae;refine kC (ZE _ _ _) ?_;rintro _ ag ⟨⟨⟩,af⟩;have X:=X.ext af;refine kR ?_;exact ⟨_,_,rfl,gA rfl,X⟩
 . obtain ⟨g,rfl,⟨ah,ai⟩,hA⟩:=ad.resolve_left hx;have G:=NW If N;have U:=List.length_pos_iff.2 hx;rw [O] at G;have HS:=fZ (λw1 h=>bX g c2 N ⟨U,ac⟩ w1 h);rw [O] at HS;refine kC (HS.out _ Af) ?_;rintro _ aj ⟨⟨⟩,ak,V⟩;have al:=V.size;have X:=mI X V (λk hk=>by omega);refine kR ?_;exact ⟨_,_,by rw [G],gB ⟨g,rfl,⟨Ab,Ab⟩,Af⟩,X⟩
def Hr (lt:Bf->Bf->Bool):∀(L:List AtV) (o:List Bf),(L.foldl (λo a=>if a.s∈o then o else E6 lt a.s o) o).length<=o.length+L.length
 | [],o=>by simp
 | a::L,o=>by
  rw [List.foldl_cons];have h:∀(x:Bf) (l:List Bf),(E6 lt x l).length=l.length+1:=λx l=>by
   induction l with
   | nil=>rfl
   | cons y r G=>unfold E6;split<;>simp [G]
  split
  . have:=Hr lt L o;simp only [gH];omega
  . have:=Hr lt L (E6 lt a.s o);rw [h] at this;simp only [gH];omega
def Km:∀(L:List AtV) (o:List Bf),(L.foldl (λo a=>if a.s∈o then o else o++[a.s]) o).length<=o.length+L.length
 | [],o=>by simp
 | a::L,o=>by
  rw [List.foldl_cons];split
  . have:=Km L o;simp only [gH];omega
  . have:=Km L (o++[a.s]);simp only [gR,gH,iM] at this ⊢;omega
def Sw (L:List AtV):(Bj L).length<=L.length:=by have:=Km L [];simpa [Bj] using this
set_option maxHeartbeats 8000000 in
def MN (M X:nP) (Z:Nat) (es:List EX) (L:List AtV) (hL:L.length<=12) (w:wD) (hb:BkAt M X w Z es L) :
 Calls prog 18 #[.pointer (some ⟨Z,0,none⟩)] w (NamR (E7 If L) w):=by
 have O:=Ne w;obtain ⟨ea,ec,r,h1,-,-,⟨bf,g1,-,-,-⟩,-,-⟩:=hb;have hk:((Bj L).map λs=>(s,Value.map (some (bf s)))).map (·.1)=Bj L:=by simp [Function.comp_def]
 have HK:=fZ (λw1 h=>bU r _ w1 (show MapB w1 r ((Bj L).map λs=>(s,.map (some (bf s)))) from h));rw [hk] at HK;have HS:Hid (∀(G:Nat) (w1:wD),G<w1.heap.size->r<w1.heap.size->(Jn prog 63 [.pointer (some ⟨G,0,none⟩)] Re (λk=>k=r\/k=G) (Xw (Bj L)) (·.Perm (Bj L)) w1) ->
  Calls prog 33 #[.func (.func 63) #[] #[.pointer (some ⟨G,0,none⟩)]] w1 (NamR (E7 If L) w1)):=fZ λG w1 aa hr U=>by
  have ab:=Sw L;refine Xy _ [_] AR (λk=>k=r\/k=G) (Xw (Bj L)) (·.Perm (Bj L)) (λp ⟨S,hS,N⟩=>?_) (λp N=>?_) (E7 If L) (λp N=>?_) w1 (λk hk=>by omega) (λw2 x2=>?_)
  . have h1:=N.length_le;have h2:=hS.length_eq;omega
  . have h2:=N.length_eq;omega
  . exact Nx nlt_tot L (N.nodup_iff.2 (Jz L)) (λz=>N.mem_iff)
  . exact λy J Jx W hK=>U y J Jx W ((Keeps.of_ext x2).trans hK)
 refine Ad func18 ntmps18 rfl rfl (eK ?_);refine C1 (Fa Ac rfl rfl) (kQ (HK.out _ Af) ?_);rintro _ w7 ⟨ac,⟨⟩,h2,h3,h4,h5,x6⟩;have O:=O.ext x6;refine eQ rfl (HS.out _ _ Ab Ab Af) ?_;rintro _ ad ⟨a9,ae,⟨⟩,V,Y⟩;have O:=O.ext Y;refine kR ?_;exact ⟨_,_,rfl,V.imp id λ⟨g,q1,q2,q3⟩=>⟨g,q1,⟨Ab,Ab⟩,q3⟩,O⟩
set_option maxHeartbeats 8000000 in
def NX (M X:nP) (bb:Nat) (es:List EX) (he:es.length<=1000) (hp:∀e∈es,0<=e.points/\e.points<=1000) (L:List AtV) (hL:L.length<=12) (w:wD) (U:BkAt M X w bb es L) :
 Calls prog 19 #[.pointer (some ⟨bb,0,none⟩)] w (NamR (E7 (Nw L (GO es)) L) w):=by
 have G:=Ne w;have HS:=fZ (λw1 h=>MN M X bb es L hL w1 h);have V:(E7 If L).length<=12:=by have:=Hr If L [];simp only [iM] at this;unfold E7;omega
 obtain ⟨ab,ac⟩:=Ig nlt_tot L [] List.Pairwise.nil;have ad:(E7 If L).Nodup:=GM nlt_tot ab;have O:∀z,z∈E7 If L↔z∈Bj L:=λz=>(ac z).trans (((Fu L [] List.nodup_nil).2 z).symm)
 have Y:=Nx (YL L (GO es)) L ad O;have N:=NW (Nw L (GO es)) (E7 If L);rw [Y] at N;have Z:∀k,X k\/M k->k<w.heap.size:=by
  obtain ⟨ea,ec,r,-,-,-,-,h5,h6⟩:=U;exact λk hk=>hk.elim (λh=>(h5 k h).2) (h6 k)
 have HF:=fZ (λbx g cap hn hg w1 h1 h2 h3=>Su M X bb es he hp L Ab bx g cap (E7 If L) (λx hx=>(O x).1 hx) hn hg w1 h1 h2 h3);rw [Y] at HF;have ae:E7 If L=[]->E7 (Nw L (GO es)) L=[]:=λh=>by rw [h] at N;exact kq N
 generalize E7 (Nw L (GO es)) L=T at *;generalize E7 If L=xs at *;refine Ad func19 ntmps19 rfl rfl (cS (eB [_] ?_));intro b1 w2 h4 x5 p6 z7;revert U G;refine eE x5 ?_;intro U G;refine eK ?_;refine C1 (Fa Ac rfl rfl) (kQ (HS.out _ Af) ?_);rintro _ ak ⟨a8,c9,⟨⟩,af,ag⟩;revert h4 U G;refine eE ag ?_;intro h4 U G;refine C1 Pa (cT ?_);by_cases hx:xs=[]
 . subst hx;have ah:=ae rfl;subst ah;refine eK ?_;refine C1 (BW rfl) (cC rfl (Rd _ _ _ _) ?_);rintro _ al ⟨⟨⟩,ai⟩;have G:=G.ext ai;refine kR ?_;exact ⟨_,_,rfl,gA rfl,G⟩
 . obtain ⟨g,rfl,⟨am,an⟩,hA⟩:=af.resolve_left hx;have aj:=fZ (HF.out b1 g c9 ⟨List.length_pos_iff.2 hx,V⟩ ⟨λh=>by have:=Z g (gA h);omega,λh=>by have:=Z g (gB h);omega,Ab⟩);refine eK ?_;refine C1 (BW rfl) (cC rfl (aj.out _ Af Af Af) ?_);rintro _ ao ⟨⟨⟩,ap,aa⟩;have aq:=aa.size;have G:=mI G aa (λk hk=>by omega);refine kR ?_;exact ⟨_,_,by rw [N],gB ⟨g,rfl,⟨Ab,Ab⟩,Af⟩,G⟩
def I1 {g o j:Nat} {vs:lV} {v:Value} (h:Row w ⟨g,o,none⟩ vs) (G:vs[j]? = some v):Row w ⟨g,o+j*1,none⟩ [v]:=by
 have k:=h.sub j 1;rw [show (vs.drop j).take 1=[v] from by
  rw [List.take_one,List.head?_drop,G];rfl] at k
 rwa [kI]
def NY (k:Int) (w:wD):Calls prog 12 #[.int .u8 k] w (PgC (pG k) w):=by
 have X:=Ne w;refine Ad func12 ntmps12 rfl rfl (cS (eA [_,_,_,_,_,_] ?_));intro b1 w2 N x6 p7 z8;have X:=X.ext x6;refine eK ?_;refine C1 (xB [_,_,_,_]) (C1 (xB [_,_,_,_]) (Az (xS [_,_,_,_,_,_,_,_]) rfl ?_ aFh));rintro _ ai ⟨b9,rfl,O,aj⟩;have h:=O.blk;have ab:=O.ext;have ak:=O.pos;have al:=O.size;revert N X;refine eE ab ?_;intro N X;refine C1 (xB [_,_,_,_]) (xA [_,_,_,_] ?_);intro am an ac;refine eI [_,_,_,_] ac ?_;intro ao Y ad ap aq;revert h N X;refine eE ad ?_;intro h N X;refine cN (C1 (xB [_,_,_]) (Az (xS [_,_,_]) rfl ?_ aFh));rintro _ ar ⟨Z,rfl,U,t28⟩;have M:=U.blk;have ae:=U.ext;have au:=U.pos;have av:=U.size;revert Y h N X;refine eE ae ?_;intro Y h N X;refine AH [_,_,_,_] Ac rfl rfl rfl Y rfl rfl rfl (Az (xS [_,_,_,_]) rfl ?_ aFh);rintro _ aw ⟨aa,rfl,V,ax⟩;have G:=V.blk;have af:=V.ext;have ay:=V.pos;have az:=V.size;revert M h N X;refine eE af ?_;intro M h N X;refine C1 (xB [_,_,_,_]) (C1 (xB [_,_,_,_,_,_]) (eS [_,_,_,_,_,_] N ?_));intro a0 ag ah a1;revert G M h X;refine eF ah ?_;intro G M h X;refine kX ag ?_;refine ⟨some ⟨Z,0,none⟩,1,none,0,some ⟨aa,0,none⟩,1,rfl,⟨gB ⟨Z,0,rfl,⟨Ab,Ab⟩,?_⟩,gA rfl,?_⟩,gA rfl,gP _,X⟩
 . intro i v hi;rcases i with - | i
   . cases hi;exact M.row
   . cases i<;>cases hi
 . exact ⟨aa,0,some ⟨b9,0,none⟩,2,rfl,⟨Ab,Ab⟩,G.cell (i:=0) rfl,G.cell (i:=1) rfl,G.cell (i:=2) rfl,G.cell (i:=3) rfl,
    ⟨b9,0,none,0,rfl,⟨Ab,Ab⟩,h.cell (i:=0) rfl,h.cell (i:=1) rfl,h.cell (i:=2) rfl,h.cell (i:=3) rfl,trivial,
     b9,4,none,0,rfl,⟨Ab,Ab⟩,h.cell (i:=4) rfl,h.cell (i:=5) rfl,h.cell (i:=6) rfl,h.cell (i:=7) rfl,trivial,trivial⟩,trivial⟩
def Kn (xs ys:List Bf) (hx:xs.length<=1000000) (S S':nP) (a a':oA) (c c':Nat) (w:wD) (V:Rows S w (xs.map str) a) (Y:Rows S' w (ys.map str) a') :
 Calls prog 29 #[.slice a xs.length c,.slice a' ys.length c'] w λe w'=>e = .returned (.bool (decide (xs=ys)))/\Ext w w':=by
 have X:=Ne w;rcases Decidable.em (xs.length=ys.length) with hn|hn
 case inr=>
  rw [decide_eq_false (λe=>hn (by rw [e]))];refine Ad func29 ntmps29 rfl rfl ?_;refine kR ?_;exact ⟨rfl,X⟩
 refine Ad func29 ntmps29 rfl rfl ?_;refine cS (C1 Pa (cT (Aj (cS (C1 Mv (C1 Pz (C1 Mv (C1 Pz (C1 V2 (cT (Dd ?_)))))))))));refine Am (Ai (Aj (cS (C1 Pa (cT ?_)))));refine As ?_;refine AF (ι:=Nat) (λj=>[(0,.slice a xs.length c),(1,.slice a' ys.length c'),(5,.int .i64 j)])
  (λj w'=>j<=xs.length/\xs.take j=ys.take j/\Rows S w' (xs.map str) a/\Rows S' w' (ys.map str) a'/\Ext w w') (λj=>xs.length-j) 0 sB ⟨gI _,rfl,V,Y,X⟩ ?_
 clear V Y X;rintro j w1 ⟨hj,ht,V,Y,X⟩;by_cases U:j<xs.length
 . have G:j<ys.length:=by omega
   rcases V with h|⟨g,o,rfl,s1,r1⟩
   . rw [List.map_eq_nil_iff] at h;rw [h] at U;simp at U
   rcases Y with h|⟨g',o',rfl,s2,r2⟩
   . rw [List.map_eq_nil_iff] at h;rw [h] at G;simp at G
   have rx:Row w1 ⟨g,o+j*1,none⟩ [str xs[j]]:=I1 r1 (by rw [iD,fY U];rfl);have ry:Row w1 ⟨g',o'+j*1,none⟩ [str ys[j]]:=I1 r2 (by rw [iD,fY G];rfl);have Z:xs[j]=ys[j]->xs.take (j+1)=ys.take (j+1):=λh=>by rw [gC U,gC G,ht,h]
   have af:xs[j]≠ys[j]->xs≠ys:=λh e=>h (by subst e;rfl)
   have V:Rows S w1 (xs.map str) (some ⟨g,o,none⟩):=gB ⟨g,o,rfl,s1,r1⟩;have Y:Rows S' w1 (ys.map str) (some ⟨g',o',none⟩):=gB ⟨g',o',rfl,s2,r2⟩;generalize xs[j]=x at *;generalize ys[j]=y at *;by_cases ac:x=y
   . subst ac;refine eK ?_;refine Ap (λM=>Ext w1 M) 8 (.pure 0 (.pure 1 (.pure 2 (.pure 3 (.pure 4 (.pure 5 (.pure 6 (.pure 7 .tail)))))))) mixed AR (Aa (Ae (Aa (Aa (Ae (Aa Ag)))))) ?_;intro ag ad _;have aa:(λM=>Ext w1 M) ag:=ad;simp only at aa;have N:=rx;have O:=ry;revert X V Y;refine eE ad ?_;intro X V Y;refine ⟨aa,?_⟩;refine eT ?_;refine Tq rfl (Ar Ac rfl rfl rfl (λM hz=>mE (mw N hz) rfl)) ?_;refine eT ?_;refine Tq rfl (Ar Ac rfl rfl rfl (λM hz=>mE (mw O hz) rfl)) ?_;refine Aq rfl (C1 V9 (cT (M4 rfl (not_not_intro rfl) (Am (Ah (Ai (Ak (C1 Mv (C1 V7 (C1 Pa (Al ?_)))))))))));exact Av (j+1) sB ⟨Ab,Z rfl,V,Y,X⟩ Ab
   . rw [decide_eq_false (af ac)];clear Z;refine eK ?_;refine Ap (λM=>Ext w1 M) 8 (.pure 0 (.pure 1 (.pure 2 (.pure 3 (.pure 4 (.pure 5 (.pure 6 (.pure 7 .tail)))))))) mixed AR (Aa (Ae (Aa (Aa (Ae (Aa Ag)))))) ?_;intro ah ae _;have ab:(λM=>Ext w1 M) ah:=ae;simp only at ab;have N:=rx;have O:=ry;have X:=X.ext ae;refine ⟨ab,?_⟩;refine eT ?_;refine Tq rfl (Ar Ac rfl rfl rfl (λM hz=>mE (mw N hz) rfl)) ?_;refine eT ?_;refine Tq rfl (Ar Ac rfl rfl rfl (λM hz=>mE (mw O hz) rfl)) ?_;refine Aq rfl ?_;refine kR ?_;exact ⟨rfl,X⟩
 . obtain rfl:j=xs.length:=by omega
   rw [gL,hn,gL] at ht;rw [decide_eq_true ht];refine kR ?_;exact ⟨rfl,X⟩
def NamAt.rows (h:NamAt S w xs a):Rows S w (xs.map str) a:=by
 rcases h with rfl|⟨g,rfl,M,t,N⟩
 . exact gA rfl
 . refine gB ⟨g,0,rfl,M,λi v G=>N.row i v ?_⟩;rw [gN (List.getElem?_eq_some_iff.1 G).1,G]
def Z3 {k:Int} (G:0<=k) (M:k<=255):(pG k).wf:=by
 refine ⟨by simp [pG],by simp [pG],?_,by simp [pG],?_⟩
 . intro v h;simp only [pG,iB] at h;subst h;exact ⟨AQ,AQ,AQ,AQ,AQ⟩
 . simp [pG,Nd.wf,CO,G,M]
def Xz:e50.wf:=⟨by simp [e50],Z3 Ab Ab,by simp [e50,pG]⟩
def dT:IU [e50]=0:=by
 unfold IU;rw [AC AQ,AT (by simp [Kj]),AT AQ]
def NewY (l:List EX) (w:wD):Ending->wD->Prop:=λe w'=> ∃bb M X,e = .returned (.tuple #[.pointer (some ⟨bb,0,none⟩),.int .i64 0])/\BkAt M X w' bb l []/\(∀k,X k\/M k->w.heap.size<=k)/\Ext w w'
def NewY.ret {l:List EX} (h:NewY l w e w'):∃v,e = .returned v:=by
 obtain ⟨_,_,_,h,-⟩:=h;exact ⟨_,h⟩
def Z4 (l:List EX) (N:∀e∈l,e.wf) (O:l.length<=1000000) (G:IU l=0) (S:nP) (a:oA) (c:Nat) (w:wD) (U:EXs S w l a) :
 Calls prog 13 #[.slice a l.length c] w (NewY l w):=by
 refine iY (ZW l N O S a c w U) ?_;rintro e w' ⟨p,k,rfl,rfl,X,⟨-,h⟩|⟨-,V,M,Y,rfl,Z,h2⟩⟩
 . exact absurd G h
 . exact ⟨V,M,Y,by rw [G],Z,h2,X⟩
def BkAt.ltM {X:nP} {L:List AtV} (h:BkAt S X w G es L):∀k,S k->k<w.heap.size:=by
 obtain ⟨_,_,_,-,-,-,-,-,h⟩:=h;exact h
def Sub5 (M X:nP) (bb:Nat) (L':List AtV) (q:Bool) (w:wD):Ending->wD->Prop:=λe w'=> ∃tr a x c ta tx tc oa ox oc er,e = .returned (.tuple #[.agg #[.bool q,.int .i64 tr,.slice a x c,.slice ta tx tc,.slice oa ox oc,.int .i64 er],.int .i64 0]) /\
 ∃M':nP,BkAt M' X w' bb [e50] L'/\(∀k,M' k->(M k\/w.heap.size<=k)/\k<w'.heap.size)/\Fr M w w'
def Sub5.ret {X:nP} {N:List AtV} {q:Bool} (h:Sub5 S X G N q w e w'):∃v,e = .returned v:=by
 obtain ⟨_,_,_,_,_,_,_,_,_,_,_,h,-⟩:=h;exact ⟨_,h⟩
def Sx (L Z:List AtV) (hL:L.length<=100) (s:Bf) (aa:s.length<=100) (hq:Cl s=true) (k:Int) (h0:0<=k) (h1:k<=255) (q:Bool) (hg:(BL e50 (pG k)).1.ok=q) (hv:BD [e50] L s [105,110,99] (pG k)=(((BL e50 (pG k)).1,0),Z)) (M X:nP) (G:Nat) (S:nP) (O:oA) (vc:Nat) (N:oA) (pc:Nat) (U:oA) (mc:Nat) (w:wD)
 (hb:BkAt M X w G [e50] L) (hs:(pG k).sits S w O N U) (V:PDsC S w (pG k).procs N) (Y:(pG k).vars.length<=vc) :
 Calls prog 14 #[.pointer (some ⟨G,0,none⟩),str s,str [105,110,99],.agg ((pG k).cells O vc N pc U mc).toArray] w (Sub5 M X G Z q w):=by
 have h:=Q9 M X G [e50] C2 L Ab s [105,110,99] Ab hq e50 0 AR rfl Xz C2 (pG k) (Z3 h0 h1) (by simp [pG]) S O vc N pc U mc w hb hs V Y;rw [hv] at h;refine iY h ?_;rintro e w' ⟨a,c,ta,tc,oa,oc,rfl,-,-,M',-,k2,k3,k4⟩;refine ⟨(BL e50 (pG k)).1.tried,a,(BL e50 (pG k)).1.st.cells.length,c,ta,(BL e50 (pG k)).1.st.tin.length,tc,oa,(BL e50 (pG k)).1.st.tout.length,oc,(BL e50 (pG k)).1.err,by rw [<-hg],M',k3,λk hk=>⟨(k2 k hk).imp id And.left,BkAt.ltM k3 k hk⟩,k4⟩
def XA {b:Nat} {x:Bf} (h:Blk w b [str x,str n]):Rows (λ_=>True) w ([x,n].map str) (some ⟨b,0,none⟩):=gB ⟨b,0,rfl,trivial,h.row⟩
def ZF {b:Nat} {e:EX} {h M:oA} {vc N:Nat} (V:Blk w b (e.cells a vc h N M G)) (X:e.g.sits S w a h M) (Y:PDsC S w e.g.procs h) (Z:e.g.vars.length<=vc):EXs (λ_=>True) w [e] (some ⟨b,0,none⟩):=by
 refine gB ⟨b,0,rfl,trivial,λi x U=>?_⟩;rcases i with - | i
 . cases U;rw [lK,iR];exact ⟨a,vc,h,N,M,G,V.row,X.wide λ_ _=>trivial,Y.wide λ_ _=>trivial,Z⟩
 . cases i<;>cases U
set_option maxHeartbeats 8000000 in
def Va (w:wD):Calls prog 11 #[] w λe w'=>e = .returned (.bool true)/\Ext w w':=by
 have N:=Ne w;have am:=fZ (λw1=>NY 40 w1);have an:=fZ (λw1=>NY 41 w1);have HN:=fZ (λS a c w1 h=>Z4 [e50] (λe he=>by rw [iB] at he;rw [he];exact Xz) C2 dT S a c w1 h);have a8:=fZ (λM X bb S va vc pa pc ma mc w1=>Sx [] (L50.take 1) C2 [97,110,110] C2 AR 40 C2 C2 false go40.2 fA M X bb S va vc pa pc ma mc w1);have a9:=fZ (λM X bb S va vc pa pc ma mc w1=>Sx (L50.take 1) (L50.take 2) C2 [97,110,110] C2 AR 41 C2 C2 true go41.2 fB M X bb S va vc pa pc ma mc w1);have ba:=fZ (λM X bb S va vc pa pc ma mc w1=>Sx (L50.take 2) L50 C2 [98,111,98] C2 AR 41 C2 C2 true go41.2 fC M X bb S va vc pa pc ma mc w1);refine Ad func11 ntmps11 rfl rfl (eK ?_);refine C1 (xB [_,_,_]) (eQ rfl (am.out _) ?_);rintro _ du ⟨dv,dw,dx,dy,dz,d0,⟨⟩,h7,h8,h9,ao⟩;have d1:=ao.size;have N:=N.ext ao;refine C1 (xB [_,_,_,_,_,_,_,_,_,_,_,_]) (Az (xS [_,_,_,_,_,_,_,_,_,_,_,_]) rfl ?_ aFh);rintro _ d2 ⟨d3,rfl,ab,d4⟩;have d5:=ab.blk;have bc:=ab.ext;have d6:=ab.pos;have d7:=ab.size;revert h7 h8 N;refine eE bc ?_;intro h7 h8 N;refine eQ rfl (HN.out _ _ _ _ (ZF (e:=e50) Af Af Af Af)) ?_;rintro _ d8 ⟨V,d9,ea,⟨⟩,ap,ah,aq⟩;have z28:=aq.size;have N:=N.ext aq;refine eK ?_
 have b6:=ah;refine eK ?_;refine C1 (Fa Ac rfl rfl) (kQ (am.out _) ?_);rintro _ b7 ⟨b8,b9,ca,cb,cc,cd,⟨⟩,eb,ec,ed,ar⟩;revert ap N;refine eY ar ?_;intro ce ap N;refine eQ rfl (a8.out _ _ _ _ _ _ _ _ _ _ _ Af Af Af Af) ?_;rintro _ cf ⟨bd,cg,ch,ci,be,bf,bg,bh,bi,bj,bk,⟨⟩,ai,Y,au,ac⟩;have cj:=ac.size;have N:=mI N ac (λk hk=>by have:=ah k (gB hk);omega);refine eK ?_;refine xA [_,_,_,_,_,_] ?_;intro ad ck av;refine eI [_,_,_,_,_,_] av ?_;intro cl G aw cm cn;revert Y N;refine eE aw ?_;intro Y N;refine C1 Pa (cT ?_);have aj:∀k,ai k->w.heap.size<=k/\k≠ad:=λk hk=>by
  obtain ⟨k1|k1,k2⟩:=au k hk
  . have:=ah k (gB k1);omega
  . omega
 refine kQ (an.out _) ?_;rintro _ co ⟨cp,cq,cr,ct,cu,cv,⟨⟩,ee,ef,eg,ax⟩;revert G Y N;refine eY ax ?_;intro cw G Y N;refine eQ rfl (a9.out _ _ _ _ _ _ _ _ _ _ _ Af Af Af Af) ?_;rintro _ cx ⟨bl,cy,cz,c0,bm,bn,bo,bp,bq,br,bs,⟨⟩,ak,Z,ay,ae⟩;have G:=mu G ae (λe=>(aj _ e).2 rfl);have N:=mI N ae (λk hk=>(aj k hk).1);refine eK ?_;refine xA [_,_,_,_,_,_] ?_;intro az c1 a0;refine eI [_,_,_,_,_,_] a0 ?_;intro c2 U a1 c3 c4;revert Z G N;refine eE a1 ?_;intro Z G N;refine C1 Pa (cT ?_);have al:∀k,ak k->w.heap.size<=k/\k≠ad/\k≠az:=λk hk=>by
  obtain ⟨k1|k1,k2⟩:=ay k hk
  . have:=aj k k1;omega
  . omega
 refine kQ (an.out _) ?_;rintro _ c5 ⟨c6,c7,c8,c9,da,db,⟨⟩,eh,ei,ej,a2⟩;revert U Z G N;refine eE a2 ?_;intro U Z G N;refine eQ rfl (ba.out _ _ _ _ _ _ _ _ _ _ _ Af Af Af Af) ?_;rintro _ dc ⟨bt,dd,de,df,bu,bv,bw,bx,bz,b0,b1,⟨⟩,b2,O,dg,aa⟩;have U:=mu U aa (λe=>(al _ e).2.2 rfl);have G:=mu G aa (λe=>(al _ e).2.1 rfl);have N:=mI N aa (λk hk=>(al k hk).1);refine eK ?_;refine xA [_,_,_,_,_,_] ?_;intro dh di a3;refine eI [_,_,_,_,_,_] a3 ?_;intro dk _ a4 _ _;revert O U G N;refine eE a4 ?_;intro O U G N;refine C1 Pa (cT ?_);have hp:∀e∈[e50],0<=e.points/\e.points<=1000:=λe he=>by rw [iB] at he;rw [he];decide
 have HA:=fZ (λM X w1 h=>Mf M X V [e50] L50 [97,110,110] [105,110,99] w1 h);have HP:=fZ (λM X w1 h=>JC M X V [e50] C2 hp L50 [97,110,110] w1 h);have HQ:=fZ (λM X w1 h=>JC M X V [e50] C2 hp L50 [98,111,98] w1 h);have HR:=fZ (λM X w1 h=>NX M X V [e50] C2 hp L50 C2 w1 h);have HS:=fZ (λS S' a a' c c' w1 h1 h2=>Kn [[98,111,98],[97,110,110]] [[98,111,98],[97,110,110]] C2 S S' a a' c c' w1 h1 h2);rw [decide_eq_true rfl] at HS;rw [pts50.2.2.1] at HA;rw [pts50.1] at HP;rw [pts50.2.1] at HQ;rw [pts50.2.2.2] at HR;refine kC (HP.out _ _ _ Af) ?_;rintro _ ek ⟨⟨⟩,b3⟩;revert O N;refine eE b3 ?_;intro O N;refine kC (HQ.out _ _ _ Af) ?_;rintro _ el ⟨⟨⟩,b4⟩;revert O N;refine eE b4 ?_;intro O N;refine kC (HA.out _ _ _ Af) ?_;rintro _ em ⟨⟨⟩,b5⟩;revert O N;refine eE b5 ?_;intro O N;refine kQ (HR.out _ _ _ Af) ?_;rintro _ dl ⟨dm,dn,⟨⟩,af,a5⟩;have N:=N.ext a5;refine Pc (Az (xS [_,_]) rfl ?_ aFh);rintro _ dp ⟨dq,rfl,ag,dr⟩;have ds:=ag.blk;have a6:=ag.ext;revert af N;refine eE a6 ?_;intro af N;refine Pc (cC rfl (HS.out _ _ _ _ _ _ _ (NamAt.rows Af) (XA Af)) ?_);rintro _ dt ⟨⟨⟩,a7⟩;have N:=N.ext a7;refine kR ?_;exact ⟨rfl,N⟩
def Rf (N:Nat):∀(t:Nd) (S:nP) (a:oA) (c:Nat) (w:wD),t.size<N->t.wf->t.sits S w a ->
 Calls prog 55 #[t.val a c] w λe w'=> ∃n:Int,e = .returned (.int .i64 n)/\Ext w w':=by
 induction N with
 | zero=>intro t S a c w h;omega
 | succ N ih=>
  rintro ⟨k,n,s,l⟩ S a c w hN hM G;have IH:=fZ ih;simp only [Nd.sits] at G;simp only [Nd.size] at hN;obtain ⟨-,-,-,-,-,hl,V⟩:=hM;have X:=Ne w;refine Ad func55 ntmps55 rfl rfl (cS (eB [_,_,_,_] ?_));intro b1 w2 h4 x5 _ _;revert G X;refine eE x5 ?_;intro G X;refine eK ?_;refine AF (ι:=Nat×Int) (λx=>[(9,.int .i64 x.1),(8,.int .i64 l.length),(7,.slice a l.length c),(3,.int .i64 x.2)]) (λx w'=>rowSits S w' l a/\Ext w w'/\x.1<=l.length) (λx=>l.length-x.1) (0,1) sB ⟨G,X,gI _⟩ ?_;rintro ⟨j,q⟩ w1 ⟨G,X,hj⟩;simp only at hj;by_cases M:j<l.length
  . obtain ⟨kb,ko,rfl,ad,O⟩:=BJ G (by intro e;subst e;simp at M);obtain ⟨xa,xc,rx,sx⟩:=O j l[j] (fY M);have ae:=D4 (gK M);have Y:=BN V _ (gK M);generalize l[j]=x at *;refine eK ?_;refine xA [_,_,_,_] ?_;intro af ag Z;refine eI [_,_,_,_] Z ?_;intro ah ai aa _ _;revert X G sx;refine eE aa ?_;intro X G sx;refine eK ?_;refine Az (AM AR rfl (IH.out _ S _ _ _ Ab Y Af) (λ_ _ ⟨_,h⟩=>⟨_,h.1⟩)) rfl ?_ aFh;rintro _ ac ⟨ab,⟨⟩,U⟩;revert X G;refine eE U ?_;intro X G;refine C1 (Je (a:=q) rfl rfl) (eK ?_);exact Av (j+1,Lo (q+ab)) sB ⟨G,X,M⟩ (by simp only;omega)
  . have:j=l.length:=by omega
    subst this;refine kR ?_;exact ⟨_,rfl,X⟩
def Q01 (p:Prop) (w:wD):Ending->wD->Prop:=λe w'=> ∃q:Int,e = .returned (.int .i64 q)/\(q=0\/q=1/\p)/\Ext w w'
def Q01.ret {p:Prop} (h:Q01 p w e w'):∃v,e = .returned v:=by
 obtain ⟨_,h,-⟩:=h;exact ⟨_,h⟩
def Tw (p:PG) (hp:p.wf) (S:nP) (Y:oA) (vc:Nat) (O:oA) (pc:Nat) (U:oA) (Z:Nat) (w:wD) (hs:p.sits S w Y O U) :
 Calls prog 27 #[.agg (p.cells Y vc O pc U Z).toArray] w (Q01 (p.vars.length<=4) w):=by
 have X:=Ne w;have hm:=hs.main;have M:=hs.procs.ltA;have aa:=hp.main;have ab:=fZ hp.procs;have ag:=hp.np;obtain ⟨pv,G,pm⟩:=p;simp only at *;have HM:=fZ (λw1 h=>Rf (pm.size+1) pm S U Z w1 Ab aa h);obtain ⟨mk,mn,ms,ml⟩:=pm;have HZ:=fZ (λ(b:PD) (hb:b∈G) (S:nP) a c w1 h=>Rf (b.body.size+1) b.body S a c w1 Ab (ab.out b hb).body h);change Calls prog _ #[.agg #[.slice Y pv.length vc,.slice O G.length pc,.int .u8 mk,.int .i64 mn,str ms,.slice U ml.length Z]] w _;refine Ad func27 ntmps27 rfl rfl ?_
 focus
  refine cS (eB [_,_,_,_,_,_] ?_);intro b1 w2 N x5 _ _;revert X M hm;refine eE x5 ?_;intro X M hm;refine eK ?_;refine B4 rfl rfl rfl (λc8=>?_) (λc8=>?_);refine kR ?_;rotate_left;refine eK ?_;refine B4 rfl rfl rfl (λc9=>?_) (λc9=>?_);refine kR ?_;rotate_left;refine eK ?_;refine Az (AM AR rfl (HM.out _ Af) (λ_ _ ⟨_,h⟩=>⟨_,h.1⟩)) rfl ?_ aFh;rintro _ ah ⟨ai,⟨⟩,ac⟩;revert N X M;refine eE ac ?_;intro N X M;refine eK ?_;refine AA rfl (λad=>?_) (λad=>?_);refine kR ?_;rotate_left;refine Am (Ai (Aj (cS (C1 Pa (cT ?_)))));rotate_left
 all_goals try exact ⟨0,rfl,gA rfl,X⟩
 refine As ?_;refine AF (ι:=Nat) (λj=>[(1,.pointer (some ⟨b1,0,none⟩)),(3,.int .i64 j)])
  (λj w'=>j<=G.length/\Blk w' b1 [.slice Y pv.length vc,.slice O G.length pc,.int .u8 mk,.int .i64 mn,str ms,.slice U ml.length Z]/\PDs (· < w.heap.size) w' G O/\Ext w w') (λj=>G.length-j) 0 sB ⟨gI _,N,M,X⟩ ?_
 rintro j w1 ⟨hj,N,M,X⟩;by_cases V:j<G.length
 . obtain ⟨kb,ko,rfl,-,hk⟩:=mM M Ab;obtain ⟨aj,ak,al,am,rx,-,sx⟩:=hk j G[j] (fY V);have HY:=fZ (HZ.out G[j] (gK V));generalize G[j]=x at *;obtain ⟨xn,an,bk,bn,bs,bl⟩:=x;unfold PD.cells at rx;simp only at *
   focus
    refine eK ?_;refine BQ [_,_,_,_] Ac rfl rfl rfl rx rfl rfl rfl (Az (AM AR rfl (HY.out _ _ _ _ Af) (λ_ _ ⟨_,h⟩=>⟨_,h.1⟩)) rfl ?_ aFh);rintro _ ao ⟨ap,⟨⟩,ae⟩;revert X N M;refine eE ae ?_;intro X N M;refine eK ?_;refine AA rfl (λaf=>?_) (λaf=>?_);refine kR ?_;rotate_left;refine Am (Ah (Ai (Ak (C1 Mv (C1 V7 (C1 Pa (Al ?_)))))));rotate_left
   . exact ⟨0,rfl,gA rfl,X⟩
   . exact Av (j+1) sB ⟨Ab,N,M,X⟩ Ab
 . obtain rfl:j=G.length:=by omega
   refine kR ?_;exact ⟨1,rfl,gB ⟨rfl,Ab⟩,X⟩
structure SB where
 stu:Bf
 name:Bf
 ans:PG
abbrev SB.cells (s:SB) (va:oA) (vc:Nat) (pa:oA) (pc:Nat) (ma:oA) (mc:Nat):lV:=[str s.stu,str s.name,.slice va s.ans.vars.length vc,.slice pa s.ans.procs.length pc,.int .u8 s.ans.main.kind,.int .i64 s.ans.main.num,str s.ans.main.name,.slice ma s.ans.main.kids.length mc]
structure SB.wf (s:SB):Prop where
 stu:s.stu.length<=9223372036854775807
 name:s.name.length<=9223372036854775807
 ans:s.ans.wf
structure SB.sits (S:nP) (w:wD) (s:SB) (va pa ma:oA) (vc:Nat):Prop where
 g:s.ans.sits S w va pa ma
 p:PDsC S w s.ans.procs pa
 room:s.ans.vars.length<=vc
def fE (S:nP) (w:wD) (b o:Nat) (s:SB):Prop:= ∃va vc pa pc ma mc,Row w ⟨b,o,none⟩ (s.cells va vc pa pc ma mc)/\s.sits S w va pa ma vc
def SBs (S:nP) (w:wD) (l:List SB) (a:oA):Prop:=Arr S 8 (fE S) w l a
def SB.sits.ext {S:nP} {w w':wD} {s:SB} {G M N:oA} {vc:Nat} (h:s.sits S w G M N vc) (x:Ext w w'):s.sits S w' G M N vc:=⟨h.g.ext x,h.p.ext x,h.room⟩
instance {s:SB} {M N:oA} {vc:Nat}:LfE w w' (s.sits S w a M N vc) (s.sits S w' a M N vc):=⟨λx h=>Bk.SB.sits.ext h x⟩
def SB.sits.fr {S T:nP} {w w':wD} {s:SB} {G M N:oA} {vc:Nat} (h:s.sits S w G M N vc) (x:Fr T w w') (O:∀b,S b -> ¬T b):s.sits S w' G M N vc:=⟨h.g.fr x O,h.p.fr x O,h.room⟩
instance {T:nP} {s:SB} {M N:oA} {vc:Nat}:LfF T w w' (s.sits S w a M N vc) (∀b,S b -> ¬T b) (s.sits S w' a M N vc):=⟨λx s h=>Bk.SB.sits.fr h x s⟩
def SBs.ext {S:nP} {w w':wD} {l:List SB} {a:oA} (h:SBs S w l a) (x:Ext w w'):SBs S w' l a:=
 h.mono aFh (λ_ _ _ _ _ ⟨G,vc,pa,pc,ma,mc,h1,h2⟩=>⟨G,vc,pa,pc,ma,mc,h1.ext x,h2.ext x⟩)
instance {l:List SB}:LfE w w' (SBs S w l a) (SBs S w' l a):=⟨λx h=>Bk.SBs.ext h x⟩
def SBs.fr {S T:nP} {w w':wD} {l:List SB} {a:oA} (h:SBs S w l a) (x:Fr T w w') (G:∀b,S b -> ¬T b):SBs S w' l a:=
 h.mono aFh (λb _ _ _ M ⟨N,vc,pa,pc,ma,mc,h1,h2⟩=>⟨N,vc,pa,pc,ma,mc,h1.fr x (G b M),h2.fr x G⟩)
instance {T:nP} {l:List SB}:LfF T w w' (SBs S w l a) (∀b,S b -> ¬T b) (SBs S w' l a):=⟨λx s h=>Bk.SBs.fr h x s⟩
def SBs.ltA {S:nP} {w:wD} {l:List SB} {a:oA} (h:SBs S w l a):SBs (· < w.heap.size) w l a:=by
 rcases h with h|⟨b,o,Z,h2,N⟩
 . exact gA h
 . cases l with
   | nil=>exact gA rfl
   | cons v r=>
    refine gB ⟨b,o,Z,?_,λi x hi=>?_⟩
    . obtain ⟨O,vc,U,V,X,Y,G,-⟩:=N 0 v rfl;exact Ci (mE G rfl)
    . obtain ⟨O,vc,U,V,X,Y,G,M⟩:=N i x hi;exact ⟨O,vc,U,V,X,Y,G,M.g.ltA,M.p.ltA,M.room⟩
def XB (es:List EX) (Y:es.length<=1000000) (s:Bf) (S:nP) (a:oA) (c:Nat) (w:wD) (M:EXs S w es a) :
 Calls prog 22 #[.slice a es.length c,str s] w λe w'=>e = .returned (.int .i64 (Fw es s))/\Ext w w':=by
 have X:=Ne w;have M:=M.ltA;refine Ad func22 ntmps22 rfl rfl (cS (C1 Pa (cT (Aj (cS (C1 Pa (cT ?_)))))));refine As ?_;refine AF (ι:=Nat) (λj=>[(0,.slice a es.length c),(1,str s),(5,.int .i64 j)])
  (λj w'=>j<=es.length/\EXs (· < w.heap.size) w' es a/\Ext w w'/\(es.take j).findIdx? (λp=>decide (p.name=s))=none)
  (λj=>es.length-j) 0 sB ⟨gI _,M,X,rfl⟩ ?_
 rintro j w1 ⟨hj,M,X,G⟩;by_cases N:j<es.length
 . obtain ⟨kb,ko,rfl,-,Z⟩:=mM M Ab;obtain ⟨va,vc,pa,pc,ma,mc,ry,-⟩:=Z j es[j] (fY N);have O:=FV N G;have U:es[j].name=s->Fw es s=j:=λh=>by
    rw [AT (by simpa using h)] at O;rw [Fw,Rk,FW O]
   generalize es[j]=y at *;unfold mZ at *
   focus
    refine eK ?_;refine AA rfl (λV=>?_) (λV=>?_);refine kR ?_;rotate_left;refine Am (Ah (Ai (Ak (C1 Mv (C1 V7 (C1 Pa (Al ?_)))))));rotate_left
   . exact ⟨by rw [U Af],X⟩
   . exact Av (j+1) sB ⟨Ab,M,X,O.trans (AC (by simpa using Af))⟩ Ab
 . obtain rfl:j=es.length:=by omega
   rw [gL] at G;have Y:Fw es s = -1:=by rw [Fw,Rk,G]
   rw [Y];refine kR ?_;exact ⟨rfl,X⟩
def bZ (l:List EX) (subs:List SB):Prop:=l.length<=4/\subs.length<=8/\(∀e∈l,e.g.vars.length<=4/\e.fuel<=400) /\ ∀s∈subs,s.ans.vars.length<=4
set_option maxHeartbeats 8000000 in
def ZG (l:List EX) (G:List SB) (hl:∀e∈l,e.g.wf) (hb:∀s∈G,s.ans.wf) (S S':nP) (a a':oA) (c c':Nat) (w:wD) (N:EXs S w l a) (M:SBs S' w G a') :
 Calls prog 20 #[.slice a l.length c,.slice a' G.length c'] w (Q01 (bZ l G) w):=by
 have X:=Ne w;have N:=N.ltA;have M:=M.ltA;refine Ad func20 ntmps20 rfl rfl ?_
 focus
  refine eK ?_;refine B4 rfl rfl rfl (λc1=>?_) (λc1=>?_);refine kR ?_;rotate_left;refine eK ?_;refine AA rfl (λc2=>?_) (λc2=>?_);refine kR ?_;rotate_left;refine Am (Ai (Aj (cS (C1 Pa (cT ?_)))));rotate_left
 all_goals try exact ⟨0,rfl,gA rfl,X⟩
 refine As ?_;refine AF (ι:=Nat) (λj=>[(0,.slice a l.length c),(1,.slice a' G.length c'),(5,.int .i64 j)])
  (λj w'=>j<=l.length/\(∀e∈l.take j,e.g.vars.length<=4/\e.fuel<=400)/\EXs (· < w.heap.size) w' l a/\SBs (· < w.heap.size) w' G a'/\Ext w w') (λj=>l.length-j) 0 sB ⟨gI _,AQ,N,M,X⟩ ?_
 rintro j w1 ⟨hj,Z,N,M,X⟩;by_cases O:j<l.length
 . obtain ⟨kb,ko,rfl,-,hk⟩:=mM N Ab;obtain ⟨va,vc,pa,pc,ma,mc,rx,sx⟩:=hk j l[j] (fY O);have aa:l[j].g.vars.length<=4/\l[j].fuel<=400 -> ∀e∈l.take (j+1),e.g.vars.length<=4/\e.fuel<=400:=λh e V=>by
    rw [gC O,jA,iB] at V;rcases V with V|rfl
    . exact Z e V
    . exact h
   have sg:=sx.g;have ab:=hl _ (gK O);generalize l[j]=x at *;have HT:=fZ (λS w1 h=>Tw x.g ab S va vc pa pc ma mc w1 h);unfold mZ at *
   focus
    refine eK ?_;refine xA [_,_,_,_,_,_,_,_,_,_,_,_] ?_;intro ap aq ak;refine eI [_,_,_,_,_,_,_,_,_,_,_,_] ak ?_;intro ar ac al _ _;revert M X N sg;refine eE al ?_;intro M X N sg;refine kQ (HT.out _ _ Af) ?_;rintro _ ao ⟨au,⟨⟩,ad,ae⟩;revert ac M X N;refine eE ae ?_;intro ac M X N;refine eK ?_;refine B4 rfl rfl rfl (λY=>?_) (λY=>?_);refine kR ?_;rotate_left;refine eK ?_;refine B4 rfl rfl rfl (λaf=>?_) (λaf=>?_);refine kR ?_;rotate_left;refine eK ?_;refine B4 rfl rfl rfl (λag=>?_) (λag=>?_);refine kR ?_;rotate_left;refine eK ?_;refine B4 rfl rfl rfl (λah=>?_) (λah=>?_);refine kR ?_;rotate_left;refine eK ?_;refine AA rfl (λai=>?_) (λai=>?_);refine kR ?_;rotate_left;refine Am (Ah (Ai (Ak (C1 Mv (C1 V7 (C1 Pa (Al ?_)))))));rotate_left
   all_goals try exact ⟨0,rfl,gA rfl,X⟩
   exact Av (j+1) sB ⟨Ab,aa ⟨(ad.resolve_left Y).2,Ab⟩,N,M,X⟩ Ab
 . obtain rfl:j=l.length:=by omega
   rw [gL] at Z;refine Aj (cS (C1 Mv (C1 Mv (C1 Pz (C1 V3 (cT (Dd (BF (Ay (Ay (AS (Ai (Aj (cS (C1 Pa (cT (As ?_)))))))))))))))));refine AF (ι:=Nat) (λj=>[(1,.slice a' G.length c'),(7,.int .i64 j)])
    (λj w'=>j<=G.length/\(∀e∈G.take j,e.ans.vars.length<=4)/\SBs (· < w.heap.size) w' G a'/\Ext w w') (λj=>G.length-j) 0 sB ⟨gI _,AQ,M,X⟩ ?_
   rintro j w1 ⟨hj,U,N,X⟩;by_cases O:j<G.length
   . obtain ⟨kb,ko,rfl,-,hk⟩:=mM N Ab;obtain ⟨va,vc,pa,pc,ma,mc,rx,sx⟩:=hk j G[j] (fY O);have aa:G[j].ans.vars.length<=4 -> ∀e∈G.take (j+1),e.ans.vars.length<=4:=λh e V=>by
      rw [gC O,jA,iB] at V;rcases V with V|rfl
      . exact U e V
      . exact h
     have sg:=sx.g;have ab:=hb _ (gK O);generalize G[j]=x at *;have HT:=fZ (λS w1 h=>Tw x.ans ab S va vc pa pc ma mc w1 h);unfold SB.cells at *
     focus
      refine eK ?_;refine BQ [_,_,_,_,_,_] Ac rfl rfl rfl rx rfl rfl rfl (eQ rfl (HT.out _ _ Af) ?_);rintro _ av ⟨aw,⟨⟩,am,an⟩;revert X N;refine eE an ?_;intro X N;refine eK ?_;refine AA rfl (λaj=>?_) (λaj=>?_);refine kR ?_;rotate_left;refine Am (Ah (Ai (Ak (C1 Mv (C1 V7 (C1 Pa (Al ?_)))))));rotate_left
     all_goals try exact ⟨0,rfl,gA rfl,X⟩
     exact Av (j+1) sB ⟨Ab,aa (am.resolve_left aj).2,N,X⟩ Ab
   . obtain rfl:j=G.length:=by omega
     rw [gL] at U;refine kR ?_;exact ⟨1,rfl,gB ⟨rfl,Ab,Ab,Z,U⟩,X⟩
def dU (l:List EX) (M:∀e∈l,e.wf) (N:l.length<=1000000) {k:Int} (G:IU l=k) (O:k≠0) (S:nP) (a:oA) (c:Nat) (w:wD) (U:EXs S w l a) :
 Calls prog 13 #[.slice a l.length c] w λe w'=>e = .returned (.tuple #[.pointer none,.int .i64 k])/\Ext w w':=by
 refine iY (ZW l M N S a c w U) ?_;rintro e w' ⟨p,V,rfl,rfl,X,⟨rfl,-⟩|⟨h,-⟩⟩
 . exact ⟨by rw [G],X⟩
 . exact absurd (G.symm.trans h) O
def N0 {l:List EX} (h:IU l=0):(∀e∈l,e.valid)/\(l.map (·.name)).Nodup:=by
 unfold IU at h;split at h
 . omega
 . split at h
   . split at h
     . exact ⟨Af,Af⟩
     . omega
   . omega
end Bk
namespace Bk
open Go Go.RowKit Go.Proofs
variable {j:Nat} {w:wD} {R:List AtR} {S:nP} {a:oA} {xs:List Bf} {cs:lV}
def XC (M X:nP) (G:Nat) (es:List EX) (ac:es.length<=4) (Z:∀e∈es,e.wf/\e.fuel<=400) (L:List AtV) (hL:L.length<=1000) (s n:Bf) (h:s.length<=9223372036854775807) (p:PG) (hp:p.wf) (ad:p.vars.length<=4) (S:nP) (O:oA) (vc:Nat) (N:oA) (V:Nat) (U:oA) (Y:Nat) (w:wD)
 (hb:BkAt M X w G es L) (hs:p.sits S w O N U) (aa:PDsC S w p.procs N) (ab:p.vars.length<=vc) :
 Calls prog 14 #[.pointer (some ⟨G,0,none⟩),str s,str n,.agg (p.cells O vc N V U Y).toArray] w (SubR M X G es (BD es L s n p) w):=by
 cases hq:Cl s
 . exact Q7 M X G es Ab L s n h p (gA hq) O vc N V U Y w hb
 cases hi:Rk es n with
 | none=>exact Q7 M X G es Ab L s n h p (gB hi) O vc N V U Y w hb
 | some i=>
  obtain ⟨e,he,-,-⟩:=JM hi;obtain ⟨h1,h2⟩:=Z e (iI he);exact Q9 M X G es Ab L Ab s n h hq e i hi he h1 Ab p hp Ab S O vc N V U Y w hb hs aa ab
def KZ (es:List EX) (L:List AtV) (s n:Bf) (p:PG):(BD es L s n p).2.length<=L.length+1:=by
 have h:∀ok,(Hi L s n ok).length<=L.length+1:=λok=>by unfold Hi;split<;>simp
 unfold BD;split
 . split
   . simp
   . split
     . simp
     . split
       . simp
       . exact h _
 . simp
noncomputable def Fz (es:List EX) (L:List AtV) (subs:List SB):List AtV:=subs.foldl (λL s=>(BD es L s.stu s.name s.ans).2) L
def Sy (es:List EX) (L:List AtV) (h:List SB) (s:SB):Fz es L (h++[s])=(BD es (Fz es L h) s.stu s.name s.ans).2:=by
 unfold Fz;rw [List.foldl_append];rfl
def N1 (es:List EX):∀(h:List SB) (L:List AtV),(Fz es L h).length<=L.length+h.length
 | [],L=>by simp [Fz]
 | s::r,L=>by
  have M:=KZ es L s.stu s.name s.ans;have G:=N1 es r (BD es L s.stu s.name s.ans).2;unfold Fz at G ⊢;rw [List.foldl_cons,gH];omega
attribute [local irreducible] Go.Calls
def MO (x:AtR):lV:=[str x.s,.int .i64 x.k,.bool x.ok]
def Tx (R:List AtR):(R.flatMap MO).length=R.length*3:=by
 induction R with
 | nil=>rfl
 | cons x r h=>rw [jZ,gR,h];simp [MO];omega
abbrev Ats (S:nP) (w:wD) (R:List AtR) (a:oA):Prop:=Rows S w (R.flatMap MO) a
def Ats.ext {S:nP} {w w':wD} {R:List AtR} {a:oA} (h:Ats S w R a) (x:Ext w w'):Ats S w' R a:=Rows.ext h x
instance {w':wD}:LfE w w' (Ats S w R a) (Ats S w' R a):=⟨λx h=>Bk.Ats.ext h x⟩
def Ats.fr {T:nP} {w':wD} (h:Ats S w R a) (x:Fr T w w') (G:∀b,S b -> ¬T b):Ats S w' R a:=mT h x G
instance {T:nP} {w':wD}:LfF T w w' (Ats S w R a) (∀b,S b -> ¬T b) (Ats S w' R a):=⟨λx s h=>Bk.Ats.fr h x s⟩
def Sz (h:Ats S w R a) (G:j<R.length):∃b o,a=some ⟨b,o,none⟩/\Row w ⟨b,o+j*3,none⟩ (MO R[j]):=by
 rcases h with h|⟨b,o,M,-,N⟩
 . have:=Tx R;rw [h] at this;simp at this;omega
 . exact ⟨b,o,M,JV (f:=MO) (sz:=3) (λ_=>rfl) R o N j _ (fY G)⟩
def XD {α:Type} {p:α->Bool} {l:List α} (G:j<l.length) (h:(l.take j).any p=false):(l.take (j+1)).any p=p l[j]:=by
 rw [gC G,List.any_append,h];simp
def XE {α:Type} {p:α->Bool} {l:List α} (G:j<l.length) (h:p l[j]=true):l.any p=true:=lh.2 ⟨_,gK G,h⟩
def Rg (R:List AtR) (hR:R.length<=1000000) (s:Bf) (k:Nat) (S:nP) (Z:oA) (np pc:Nat) (U:oA) (lc:Nat) (w:wD) (h:Ats S w R U) :
 Calls prog 51 #[.agg #[.slice Z np pc,.slice U R.length lc],str s,.int .i64 k] w λe w'=>e = .returned (.bool (E8 R s k))/\Ext w w':=by
 have X:=Ne w;have h:=h.ltA;unfold E8;refine Ad func51 ntmps51 rfl rfl (cS (eB [_,_] ?_));intro b1 w2 G x5 _ _;revert X h;refine eE x5 ?_;intro X h;refine C1 Pa (cT (Aj (cS (C1 Pa (cT ?_)))));refine As ?_;refine AF (ι:=Nat) (λj=>[(1,str s),(2,.int .i64 k),(3,.pointer (some ⟨b1,0,none⟩)),(7,.int .i64 j)])
  (λj w'=>j<=R.length/\(R.take j).any (λa=>decide (a.s=s)&&(decide (a.k=k)&&a.ok))=false/\Blk w' b1 [.slice Z np pc,.slice U R.length lc]/\Ats (· < w.heap.size) w' R U/\Ext w w') (λj=>R.length-j) 0 sB ⟨gI _,rfl,G,h,X⟩ ?_
 rintro j w1 ⟨hj,O,G,h,X⟩;by_cases M:j<R.length
 . obtain ⟨b,o,rfl,N⟩:=Sz h M;have Y:=XD M O;have hy:=XE (p:=λa=>decide (a.s=s)&&(decide (a.k=k)&&a.ok)) M;generalize R[j]=x at *;obtain ⟨xs,V,xo⟩:=x;simp only [MO] at *;have hq:decide ((V:Int)=(k:Int))=decide (V=k):=decide_eq_decide.2 Int.ofNat_inj;by_cases h1:xs=s
   . by_cases h2:V=k
     . subst h1 h2;cases xo
       . refine Aj (cS (C1 Mv (C1 Pf (C1 (Pl G) (C1 Pz (C1 V3 (cT (Ll (Am (Ai (Aj ?_)))))))))));refine As (cS (C1 Pf (C1 (Pl G) (C1 Mv (C1 Pi (C1 Pg (C1 (MR N) (C1 Mv (C1 V8 (C1 Mv (AP rfl rfl rfl (Dp (rfl)) (C1 Pf (AP rfl rfl rfl (Dp (rfl)) (C1 (Pl G) (AP rfl rfl rfl (Dp (rfl)) (C1 Mv (AP rfl rfl rfl (Dp (rfl)) (C1 Pi (AP rfl rfl rfl (Dp (rfl)) (C1 Pf (AP rfl rfl rfl (Dp (rfl)) (C1 (Pw N) (AP rfl rfl rfl (Dp (rfl)) (C1 Mv (AP rfl rfl rfl (Dp (rfl)) (C1 V1 (C1 (Qy (rfl)) (eK ?_))))))))))))))))))))))))))));refine C1 (Pw N) (C1 Vs (cT (AO rfl (Am (Ah (Ai (Ak (C1 Mv (C1 V7 (C1 Pa (Al ?_)))))))))));exact Av (j+1) sB ⟨M,Y.trans AQ,G,h,X⟩ Ab
       . rw [hy AQ];refine Aj (cS (C1 Mv (C1 Pf (C1 (Pl G) (C1 Pz (C1 V3 (cT (Ll (Am (Ai (Aj ?_)))))))))));refine As (cS (C1 Pf (C1 (Pl G) (C1 Mv (C1 Pi (C1 Pg (C1 (MR N) (C1 Mv (C1 V8 (C1 Mv (AP rfl rfl rfl (Dp (rfl)) (C1 Pf (AP rfl rfl rfl (Dp (rfl)) (C1 (Pl G) (AP rfl rfl rfl (Dp (rfl)) (C1 Mv (AP rfl rfl rfl (Dp (rfl)) (C1 Pi (AP rfl rfl rfl (Dp (rfl)) (C1 Pf (AP rfl rfl rfl (Dp (rfl)) (C1 (Pw N) (AP rfl rfl rfl (Dp (rfl)) (C1 Mv (AP rfl rfl rfl (Dp (rfl)) (C1 V1 (C1 (Qy (rfl)) (eK ?_))))))))))))))))))))))))))));refine C1 (Pw N) (kR ?_);exact ⟨rfl,X⟩
     . have aa:¬(V:Int)=k:=by omega
       refine eK ?_;refine C1 (Pw N) (Vk (C1 Mv (Vk (C1 V1 (C1 Oc (C1 Mv (Im (Im (Im (Im (Im (Im (C1 MU (cT (AO rfl (Am (Ah (Ai (Ak (C1 Mv (C1 V7 (C1 Pa (Al ?_)))))))))))))))))))))));exact Av (j+1) sB ⟨M,Y.trans (by simp [h2]),G,h,X⟩ Ab
   . refine Aj (cS (C1 Mv (C1 Pf (C1 (Pl G) (C1 Pz (C1 V3 (cT (Ll (Am (Ai (Aj ?_)))))))))));refine As (cS (C1 Pf (C1 (Pl G) (C1 Mv (C1 Pi (C1 Pg (C1 (MR N) (C1 Mv (C1 V8 (C1 Mv (Im (Im (Im (Im (Im (Im (Im (Im (C1 MU (C1 Mv (A7 rfl rfl rfl (rfl) rfl (A7 rfl rfl rfl (rfl) rfl (A7 rfl rfl rfl (rfl) rfl (A7 rfl rfl rfl (rfl) rfl (A7 rfl rfl rfl (rfl) rfl (A7 rfl rfl rfl (rfl) rfl (C1 (Bu rfl rfl rfl) (cT (AO rfl (Am (Ah (Ai (Ak (C1 Mv (C1 V7 (C1 Pa (Al ?_)))))))))))))))))))))))))))))))))))));exact Av (j+1) sB ⟨M,Y.trans (by simp [h1]),G,h,X⟩ Ab
 . obtain rfl:j=R.length:=by omega
   rw [gL] at O;rw [O];refine kR ?_;exact ⟨rfl,X⟩
def SA {α:Type} {p:α->Bool} {l:List α} (h:j<l.length):(l.take (j+1)).countP p=(l.take j).countP p+if p l[j] then 1 else 0:=by
 rw [gC h,List.countP_append,List.countP_singleton]
def I2 (R:List AtR) (hR:R.length<=1000000) (s:Bf) (k:Int) (S:nP) (pa:oA) (np pc:Nat) (Y:oA) (lc:Nat) (w:wD) (h:Ats S w R Y) :
 Calls prog 54 #[.agg #[.slice pa np pc,.slice Y R.length lc],str s,.int .i64 k] w λe w'=>e = .returned (.int .i64 (Gj R s k))/\Ext w w':=by
 have X:=Ne w;have h:=h.ltA;unfold Gj;refine Ad func54 ntmps54 rfl rfl (cS (eB [_,_] ?_));intro Z w2 N x5 _ _;revert X h;refine eE x5 ?_;intro X h;refine C1 Pa (cN (C1 Pa (cT (Aj (cS (C1 Pa (cT ?_)))))));refine As ?_;refine AF (ι:=Nat×Nat) (λx=>[(1,str s),(2,.int .i64 k),(3,.pointer (some ⟨Z,0,none⟩)),(7,.int .i64 x.2),(8,.int .i64 x.1)])
  (λx w'=>x.1<=R.length/\(R.take x.1).countP (λa=>decide (a.s=s)&&(decide (k<0)||decide ((a.k:Int)=k)))=x.2/\x.2<=x.1/\Blk w' Z [.slice pa np pc,.slice Y R.length lc]/\Ats (· < w.heap.size) w' R Y/\Ext w w') (λx=>R.length-x.1) (0,0) sB ⟨gI _,rfl,gP _,N,h,X⟩ ?_
 rintro ⟨j,n⟩ w1 ⟨hj,O,M,N,h,X⟩;simp only at hj O M;refine m7 (m:=[(1,str s),(2,.int .i64 k),(3,.pointer (some ⟨Z,0,none⟩)),(7,.int .i64 n),(8,.int .i64 j)]) ?_ sB;by_cases G:j<R.length
 . obtain ⟨b,o,rfl,V⟩:=Sz h G;have U:=SA (p:=λa=>decide (a.s=s)&&(decide (k<0)||decide ((a.k:Int)=k))) G;rw [O] at U;generalize R[j]=x at *;obtain ⟨xs,xk,xo⟩:=x;simp only [MO] at V;by_cases h1:xs=s
   . by_cases h2:k<0
     . rw [AT (by simp [h1,h2])] at U;refine Aj (cS (C1 Mv (C1 Pf (C1 (Pl N) (C1 Pz (C1 V3 (cT (Ll (Am (Ai (Aj ?_)))))))))));refine As (cS (C1 Pf (C1 (Pl N) (C1 Mv (C1 Pi (C1 Pg (C1 (MR V) (C1 Mv (C1 V8 (C1 Mv (Vk (C1 Mv (Vk (C1 V3 (Vk (C1 Mv (EJ (EJ (EJ (EJ (EJ (EJ (EJ (EJ (Vk (C1 Oc (C1 Oc (cT (Bq rfl (Ak (C1 Mv (C1 V7 (C1 Pa (Al (Ah (Ai (Ak (C1 Mv (C1 V7 (C1 Pa (Al ?_)))))))))))))))))))))))))))))))))))))))));exact Av (j+1,n+1) sB ⟨G,U,Nat.succ_le_succ M,N,h,X⟩ (by simp only;omega)
     . by_cases h3:(xk:Int)=k
       . rw [AT (by simp [h1,h3])] at U;refine eK ?_;refine C1 (Pw V) (E2 (C1 Mv (E2 (C1 V1 (Vk (C1 MU (C1 Oc (cT (XU (Ak (C1 Mv (C1 V7 (C1 Pa (Al (Ah (Ai (Ak (C1 Mv (C1 V7 (C1 Pa (Al ?_)))))))))))))))))))));exact Av (j+1,n+1) sB ⟨G,U,Nat.succ_le_succ M,N,h,X⟩ (by simp only;omega)
       . rw [AC (by simp [h2,h3])] at U;refine eK ?_;refine C1 (Pw V) (E2 (C1 Mv (E2 (C1 V1 (Vk (C1 MU (C1 Oc (cT (Vt (Am (Ah (Ai (Ak (C1 Mv (C1 V7 (C1 Pa (Al ?_)))))))))))))))));exact Av (j+1,n) sB ⟨G,U,Nat.le_succ_of_le M,N,h,X⟩ (by simp only;omega)
   . rw [AC (by simp [h1])] at U;refine Aj (cS (C1 Mv (C1 Pf (C1 (Pl N) (C1 Pz (C1 V3 (cT (Ll (Am (Ai (Aj ?_)))))))))));refine As (cS (C1 Pf (C1 (Pl N) (C1 Mv (C1 Pi (C1 Pg (C1 (MR V) (C1 Mv (C1 V8 (C1 Mv (Im (Im (Im (Ds rfl rfl rfl rfl (Ds rfl rfl rfl rfl (Ds rfl rfl rfl rfl (Ds rfl rfl rfl rfl (Ds rfl rfl rfl rfl (Ds rfl rfl rfl rfl (Ds rfl rfl rfl rfl (Ds rfl rfl rfl rfl (Im (C1 MU (cT (AO rfl (Am (Ah (Ai (Ak (C1 Mv (C1 V7 (C1 Pa (Al ?_)))))))))))))))))))))))))))))))));exact Av (j+1,n) sB ⟨G,U,Nat.le_succ_of_le M,N,h,X⟩ (by simp only;omega)
 . obtain rfl:j=R.length:=by omega
   rw [gL] at O;rw [O];refine kR ?_;exact ⟨rfl,X⟩
def N2 (R:List AtR) (s:Bf):∀(a:List Int) (k:Nat) (p:Int),FY R s k (a++[p])=FY R s k a+if E8 R s (k+a.length) then p else 0
 | [],k,p=>by simp [FY]
 | x::a,k,p=>by rw [jX,FY,FY,N2 R s a,gH,show k+1+a.length=k+(a.length+1) by omega];omega
def XF (R:List AtR) (s:Bf):∀(a:List Int) (k:Nat),(∀p∈a,0<=p/\p<=1000)->0<=FY R s k a/\FY R s k a<=1000*a.length
 | [],k,_=>by simp [FY]
 | x::a,k,h=>by
  have M:=h x AQ;have N:=XF R s a (k+1) λp G=>h p (by simp [G])
  rw [FY,gH];split<;>omega
def MP (G:List Int) (ae:G.length<=1000) (Z:∀p∈G,0<=p/\p<=1000) (R:List AtR) (hR:R.length<=1000000) (s:Bf) (S:nP) (pa:oA) (pc:Nat) (la:oA) (lc:Nat) (w:wD) (N:Rows S w (AX G) pa) (h:Ats S w R la) :
 Calls prog 53 #[.agg #[.slice pa G.length pc,.slice la R.length lc],str s] w λe w'=>e = .returned (.int .i64 (FY R s 0 G))/\Ext w w':=by
 have X:=Ne w;have h:=h.ltA;have N:=N.ltA;have HS:=fZ (λk w1 h=>Rg R hR s k (· < w.heap.size) pa G.length pc la lc w1 h);refine Ad func53 ntmps53 rfl rfl (cS (eB [_,_] ?_));intro b1 w2 O x5 _ _;revert X h N;refine eE x5 ?_;intro X h N;refine C1 Pa (cN (C1 Pa (cT (Aj (cS (C1 Pa (cT ?_)))))));refine As ?_;refine AF (ι:=Nat×Int) (λx=>[(1,str s),(2,.pointer (some ⟨b1,0,none⟩)),(5,.int .i64 x.2),(6,.int .i64 x.1)])
  (λx w'=>x.1<=G.length/\FY R s 0 (G.take x.1)=x.2/\Blk w' b1 [.slice pa G.length pc,.slice la R.length lc]/\Rows (· < w.heap.size) w' (AX G) pa/\Ats (· < w.heap.size) w' R la/\Ext w w') (λx=>G.length-x.1) (0,0) sB ⟨gI _,rfl,O,N,h,X⟩ ?_
 rintro ⟨j,n⟩ w1 ⟨hj,U,O,N,h,X⟩;simp only at hj U;refine m7 (m:=[(1,str s),(2,.pointer (some ⟨b1,0,none⟩)),(5,.int .i64 n),(6,.int .i64 j)]) ?_ sB;by_cases M:j<G.length
 . have ab:=XF R s (G.take j) 0 λp Y=>Z p (jO Y)
   rw [U,iE] at ab;have af:=Z _ (gK M);have hn:=N2 R s (G.take j) 0 G[j];rw [<-gC M,U,iE,lu hj,iR] at hn;rcases N with aa|⟨g,o,rfl,s1,r1⟩
   . rw [List.map_eq_nil_iff] at aa;rw [aa] at M;simp at M
   have rx:Row w1 ⟨g,o+j*1,none⟩ [.int .i64 G[j]]:=I1 r1 (by rw [iD,fY M];rfl);have N:Rows (· < w.heap.size) w1 (AX G) (some ⟨g,o,none⟩):=gB ⟨g,o,rfl,s1,r1⟩;have V:=fZ (HS.out j);generalize G[j]=x at *;cases Y:E8 R s j
   . rw [Y] at V;rw [Y,AC AQ,Int.add_zero] at hn;refine eK ?_;refine AH [_,_] Ac rfl rfl rfl O rfl rfl rfl (kC (V.out _ Af) ?_);rintro _ ag ⟨⟨⟩,ac⟩;revert h X O N;refine eE ac ?_;intro h X O N;refine cT (AO rfl (Am (Ah (Ai (Ak (C1 Mv (C1 V7 (C1 Pa (Al ?_)))))))));exact Av (j+1,n) sB ⟨M,hn,O,N,h,X⟩ (by simp only;omega)
   . rw [Y] at V;rw [Y,AT rfl] at hn;refine eK ?_;refine AH [_,_] Ac rfl rfl rfl O rfl rfl rfl (kC (V.out _ Af) ?_);rintro _ ah ⟨⟨⟩,ad⟩;revert h X O N rx;refine eE ad ?_;intro h X O N rx;refine cT (Bq rfl (Ak (C1 Mv (C1 Pg (C1 (Pl O) (C1 Mv (C1 Pi (C1 (MR rx) (C1 V7 (C1 Pa (Al (Ah (Ai (Ak (C1 Mv (C1 V7 (C1 Pa (Al ?_))))))))))))))))));exact Av (j+1,n+x) sB ⟨M,hn,O,N,h,X⟩ (by simp only;omega)
 . obtain rfl:j=G.length:=by omega
   rw [gL] at U;rw [U];refine kR ?_;exact ⟨rfl,X⟩
def RSub (S:nP) (pa:oA) (np pc:Nat) (R:List AtR) (w:wD):Ending->wD->Prop:=λe w'=> ∃la lc,e = .returned (.agg #[.slice pa np pc,.slice la R.length lc])/\Ats (λb=>S b\/(w.heap.size<=b/\b<w'.heap.size)) w' R la/\Ext w w'
def RSub.ret {N:Nat} {w':wD} {e:Ending} (h:RSub S a j N R w e w'):∃v,e = .returned v:=by
 obtain ⟨_,_,h,-⟩:=h;exact ⟨_,h⟩
def Gq {b:Nat} (h:Blk w b cs):Rows (λ_=>True) w cs (some ⟨b,0,none⟩):=gB ⟨b,0,rfl,trivial,h.row⟩
def Ty:∀R:List AtR,(R.flatMap MO).all Value.one=true
 | []=>rfl
 | x::r=>by rw [jZ,lJ,Ty r];rfl
def XG {N:Nat} {x:AtR} {w':wD} {e g cap:Nat} (h:OwnF e 3 w.heap.size w' g cap (0+R.length+1) ([]++R.flatMap MO++MO x)) (X:Ext w w'):RSub S a j N (R++[x]) w (.returned (.agg #[.slice a j N,.slice (some ⟨g,0,none⟩) (0+R.length+1) cap])) w':=by
 refine ⟨some ⟨g,0,none⟩,cap,by rw [gR,iR];rfl,?_,X⟩;have O:=h.rows (S:=λb=>S b\/(w.heap.size<=b/\b<w'.heap.size)) (gB ⟨h.1,h.lt⟩);have U:(R++[x]).flatMap MO=[]++R.flatMap MO++MO x:=by rw [kh,kv];simp
 show Rows _ w' ((R++[x]).flatMap MO) _;rw [U];exact O
set_option maxHeartbeats 8000000 in
def Vb (R:List AtR) (hR:R.length<=1000000) (s:Bf) (k:Nat) (ok:Bool) (S:nP) (pa:oA) (np pc:Nat) (la:oA) (lc:Nat) (w:wD) (h:Ats S w R la) :
 Calls prog 25 #[.agg #[.slice pa np pc,.slice la R.length lc],str s,.int .i64 k,.bool ok] w (RSub S pa np pc (Wm R s k ok) w):=by
 have X:=Ne w;have hs:=fZ h;have HS:=fZ (λw1 h=>Rg R hR s k S pa np pc la lc w1 h);have hn:(R.flatMap MO).length=R.length*3:=Tx R;have ho:=Ty R;unfold Wm;cases hq:E8 R s k
 . rw [hq] at HS;rw [AC AQ];refine Ad func25 ntmps25 rfl rfl ?_
   focus
    refine cS (eB [_,_] ?_);intro b1 w2 h4 x5 p6 z7;revert h X;refine eE x5 ?_;intro h X;refine eA [_,_] ?_;intro b8 w9 M a2 b9 ca;revert h4 h X;refine eE a2 ?_;intro h4 h X;refine eK ?_;refine AH [_,_] Ac rfl rfl rfl h4 rfl rfl rfl ?_;refine kC (HS.out _ Af) ?_;rintro _ ae ⟨⟨⟩,a3⟩;revert M h4 h X;refine eY a3 ?_;intro cb M h4 h X;refine eK ?_;refine Ap (λwz=>Ext ae wz) 12 (.pure 0 (.pure 1 (.pure 3 (.pure 4 (.pure 6 (.pure 7 (.pure 8 (.pure 9 (.fork 2 (.fork 5 (.fork 10 (.fork 11 .tail .none) .none) (.fork 10 (.fork 5 (.fork 11 .tail .none) .none) .none)) (.fork 10 (.fork 2 (.fork 5 (.fork 11 .tail .none) .none) .none) .none)))))))))) mixed AR (Aa Ag) ?_;intro a4 af _;have G:(λwz=>Ext ae wz) a4:=af;simp only at G;have bh:=h4;revert M h X;refine eY af ?_;intro z22 M h X;refine ⟨G,?_⟩;refine eT ?_;refine Tq rfl (xB [_,_,_]) ?_;refine Ax rfl (DB (B:=w.heap.size) Ac rfl rfl Ab) rfl ?_ aFh ?kr23;rintro _ cc ⟨cd,rfl,ag,ce,cf,a5⟩;revert G M h X;refine eE a5 ?_;intro G M h X;refine ⟨G,?_⟩;refine Ax rfl (Bo (ds:=R.flatMap MO) Ac Ca rfl rfl rfl rfl AR rfl rfl rfl Af Af hn ho Ab) rfl ?_ aFh ?kr31;rintro _ cg ⟨bi,ay,rfl,ah,ch,ci,ad⟩;have cj:=ad.size;revert G M;refine eF ad ?_;intro G M;clear h;have X:=X.fr ad Ab;refine ⟨G,?_⟩;refine Ax rfl (xS [_,_,_]) rfl ?_ aFh Au;rintro _ ck ⟨cl,rfl,Y,cm⟩;have cn:=Y.blk;have a6:=Y.ext;have co:=Y.pos;have cp:=Y.size;revert ah G M X;refine eE a6 ?_;intro ah G M X;refine ⟨G,?_⟩;refine Ax rfl (Bo (ds:=MO ⟨s,k,ok⟩) Ac Ca rfl rfl rfl rfl AR rfl rfl rfl Af (Gq Af) rfl rfl Ab) rfl ?_ aFh Au;rintro _ cq ⟨bj,az,rfl,ai,cr,ct,a7⟩;revert G M X;refine eF a7 ?_;intro G M X;refine ⟨G,?_⟩;refine Aq rfl (C1 (xB [_,_]) (eS [_,_] M ?_));intro cu a8 a9 _;revert ai X;refine eF a9 ?_;intro ai X;refine kX a8 ?_;rotate_left;refine Ax rfl (xS [_,_,_]) rfl ?_ aFh Au;rintro _ cv ⟨cw,rfl,Z,cx⟩;have aj:=Z.blk;have ba:=Z.ext;have cy:=Z.pos;have cz:=Z.size;revert ag G M h X
    refine eE ba ?_;intro ag G M h X;refine ⟨G,?_⟩;refine Ax rfl (Bo (ds:=R.flatMap MO) Ac Ca rfl rfl rfl rfl AR rfl rfl rfl Af Af hn ho Ab) rfl ?_ aFh Au;rintro _ c0 ⟨bk,a0,rfl,c1,c2,c3,aa⟩;have c4:=aa.size;have aj:=aj.fr aa Ab;revert G M;refine eF aa ?_;intro G M;clear h;have X:=X.fr aa Ab;refine ⟨G,?_⟩;refine Ax rfl (Bo (ds:=MO ⟨s,k,ok⟩) Ac Ca rfl rfl rfl rfl AR rfl rfl rfl Af (Gq Af) rfl rfl Ab) rfl ?_ aFh Au;rintro _ c5 ⟨bl,a1,rfl,ak,c6,c7,bb⟩;revert G M X;refine eF bb ?_;intro G M X;refine ⟨G,?_⟩;refine Aq rfl (C1 (xB [_,_]) (eS [_,_] M ?_));intro c8 bc bd _;revert ak X;refine eF bd ?_;intro ak X;refine kX bc ?_;rotate_left;refine Ax rfl (xS [_,_,_]) rfl ?_ aFh Au;rintro _ c9 ⟨da,rfl,ab,db⟩;have N:=ab.blk;have al:=ab.ext;have bm:=ab.pos;have bn:=ab.size;revert G M h X;refine eE al ?_;intro G M h X;refine ⟨G,?_⟩;refine Ax rfl (DB (B:=w.heap.size) Ac rfl rfl Ab) rfl ?_ aFh Au;rintro _ bo ⟨bp,rfl,bq,br,bs,am⟩;revert N G M h X;refine eE am ?_;intro N G M h X;refine ⟨G,?_⟩;refine Ax rfl (Bo (ds:=R.flatMap MO) Ac Ca rfl rfl rfl rfl AR rfl rfl rfl Af Af hn ho Ab) rfl ?_ aFh Au;rintro _ bt ⟨be,an,rfl,bu,bv,bw,V⟩;have bx:=V.size;revert N G M;refine eF V ?_;intro N G M;clear h;have X:=X.fr V Ab;refine ⟨G,?_⟩;refine Ax rfl (Bo (ds:=MO ⟨s,k,ok⟩) Ac Ca rfl rfl rfl rfl AR rfl rfl rfl Af (Gq Af) rfl rfl Ab) rfl ?_ aFh Au;rintro _ bz ⟨bf,ao,rfl,ac,b0,b2,ap⟩;revert G M X;refine eF ap ?_;intro G M X;refine ⟨G,?_⟩;refine Aq rfl (C1 (xB [_,_]) (eS [_,_] M ?_));intro b3 aq ar _;revert ac X;refine eF ar ?_;intro ac X;refine kX aq ?_;rotate_left
   all_goals exact XG Af X
 . rw [hq] at HS;rw [AT rfl];refine Ad func25 ntmps25 rfl rfl ?_;refine cS (eB [_,_] ?_);intro dc dd U bg de df;revert h X;refine eE bg ?_;intro h X;refine eA [_,_] ?_;intro dg dh O au b4 b5;revert U h X;refine eE au ?_;intro U h X;refine eK ?_;refine AH [_,_] Ac rfl rfl rfl U rfl rfl rfl ?_;refine kC (HS.out _ Af) ?_;rintro _ b6 ⟨⟨⟩,av⟩;revert O U X;refine eE av ?_;intro O U X;refine eK ?_;refine AH [_,_] Ac rfl rfl rfl U rfl rfl rfl (eS [_,_] O ?_);intro b7 aw ax _;clear O h;have X:=X.fr ax Ab;refine kX aw ?_;exact ⟨la,lc,rfl,nd (Ats.ext hs.out X) λb h=>gA h,X⟩
def Z5 (R:List AtR) (pts:List Int) (rk:Bool) (x y:Bf):Bool:=
 if rk=true then if FY R x 0 pts≠FY R y 0 pts then decide (FY R y 0 pts<FY R x 0 pts) else if Gj R x (-1)≠Gj R y (-1) then decide (Gj R x (-1)<Gj R y (-1)) else decide (x<y)
 else decide (x<y)
set_option maxHeartbeats 8000000 in
def XH (M:List Int) (ai:M.length<=1000) (aj:∀p∈M,0<=p/\p<=1000) (R:List AtR) (hR:R.length<=1000000) (rk:Bool) (x y:Bf) (S:nP) (pa:oA) (pc:Nat) (la:oA) (lc:Nat) (w:wD) (hp:Rows S w (AX M) pa) (h:Ats S w R la) :
 Calls prog 89 #[.agg #[.slice pa M.length pc,.slice la R.length lc],str x,str y,.bool rk] w λe w'=>e = .returned (.bool (Z5 R M rk x y))/\Ext w w':=by
 have X:=Ne w;unfold Z5;cases rk
 . rw [AC AQ];refine Ad func89 ntmps89 rfl rfl (cS (eB [_,_] ?_));intro b1 w2 _ x5 _ _;have X:=X.ext x5;refine eK ?_;refine C1 (Gl rfl rfl) (kR ?_);exact ⟨rfl,X⟩
 rw [AT rfl];have HX:=fZ (λw1 h1 h2=>MP M ai aj R hR x S pa pc la lc w1 h1 h2);have HY:=fZ (λw1 h1 h2=>MP M ai aj R hR y S pa pc la lc w1 h1 h2);have HA:=fZ (λw1 h=>I2 R hR x (-1) S pa M.length pc la lc w1 h);have HB:=fZ (λw1 h=>I2 R hR y (-1) S pa M.length pc la lc w1 h);generalize FY R x 0 M=p at *;generalize FY R y 0 M=q at *;generalize Gj R x (-1)=m at *;generalize Gj R y (-1)=n at *;by_cases h1:p=q
 . rw [AC (by simp [h1])];subst h1;by_cases h2:m=n
   . rw [AC (by simp [h2])];subst h2;refine Ad func89 ntmps89 rfl rfl (cS (eB [_,_] ?_));intro bj ak ab a4 _ _;revert hp h X;refine eE a4 ?_;intro hp h X;refine eK ?_;refine Ap (λG=>Ext ak G) 5 (.pure 0 (.pure 1 (.pure 3 (.pure 4 (.fork 2 .tail .none))))) mixed AR (Aa (Aa Ag)) ?_;intro a5 al _;have N:(λG=>Ext ak G) a5:=al;simp only at N;have O:=ab;revert ab hp h X;refine eE al ?_;intro ab hp h X;refine ⟨N,(Tq rfl (xL [_,_] (λG hz=>(my O hz))) (Tq rfl Mv (Tq rfl (xL [_,_] (λG hz=>(my O hz))) (Tq rfl Mv (tC rfl rfl (HX.out _ Af Af) ?_)))))⟩;rintro _ bb ⟨⟨⟩,am⟩;revert N ab hp h X;refine eE am ?_;intro N ab hp h X;refine ⟨N,(Aq rfl (cC rfl (HY.out _ Af Af) ?_))⟩;rintro _ ae ⟨⟨⟩,an⟩;revert ab h X;refine eE an ?_;intro ab h X;refine eK ?_;refine Ap (λG=>Ext ae G) 5 (.pure 0 (.pure 1 (.pure 3 (.pure 4 (.fork 2 .tail .none))))) mixed AR (Aa (Aa Ag)) ?_;intro ao af _;have U:(λG=>Ext ae G) ao:=af;simp only at U;have O:=ab;revert h X;refine eE af ?_;intro h X;refine ⟨U,(Tq rfl (xL [_,_] (λG hz=>(my O hz))) (Tq rfl Mv (Tq rfl (xL [_,_] (λG hz=>(my O hz))) (Tq rfl Mv (tC rfl rfl (HA.out _ Af) ?_)))))⟩;rintro _ bc ⟨⟨⟩,ap⟩;revert U h X;refine eE ap ?_;intro U h X;refine ⟨U,(Aq rfl (cC rfl (HB.out _ Af) ?_))⟩;rintro _ bd ⟨⟨⟩,aq⟩;have X:=X.ext aq;refine eK ?_;refine C1 (Gl rfl rfl) (kR ?_)
     all_goals exact ⟨rfl,X⟩
   . rw [AT h2];have bk:¬(m:Int)=n:=by omega
     refine Ad func89 ntmps89 rfl rfl (cS (eB [_,_] ?_));intro bl ar ac a6 _ _;revert hp h X;refine eE a6 ?_;intro hp h X;refine eK ?_;refine Ap (λG=>Ext ar G) 5 (.pure 0 (.pure 1 (.pure 3 (.pure 4 (.fork 2 .tail .none))))) mixed AR (Aa (Aa Ag)) ?_;intro a7 au _;have V:(λG=>Ext ar G) a7:=au;simp only at V;have Y:=ac;revert ac hp h X;refine eE au ?_;intro ac hp h X;refine ⟨V,(Tq rfl (xL [_,_] (λG hz=>(my Y hz))) (Tq rfl Mv (Tq rfl (xL [_,_] (λG hz=>(my Y hz))) (Tq rfl Mv (tC rfl rfl (HX.out _ Af Af) ?_)))))⟩;rintro _ be ⟨⟨⟩,av⟩;revert V ac hp h X;refine eE av ?_;intro V ac hp h X;refine ⟨V,(Aq rfl (cC rfl (HY.out _ Af Af) ?_))⟩;rintro _ ag ⟨⟨⟩,aw⟩;revert ac h X;refine eE aw ?_;intro ac h X;refine eK ?_;refine Ap (λG=>Ext ag G) 5 (.pure 0 (.pure 1 (.pure 3 (.pure 4 (.fork 2 .tail .none))))) mixed AR (Aa (Aa Ag)) ?_;intro ax ah _;have Z:(λG=>Ext ag G) ax:=ah;simp only at Z;have Y:=ac;revert h X;refine eE ah ?_;intro h X;refine ⟨Z,(Tq rfl (xL [_,_] (λG hz=>(my Y hz))) (Tq rfl Mv (Tq rfl (xL [_,_] (λG hz=>(my Y hz))) (Tq rfl Mv (tC rfl rfl (HA.out _ Af) ?_)))))⟩;rintro _ bf ⟨⟨⟩,ay⟩;revert Z h X;refine eE ay ?_;intro Z h X;refine ⟨Z,(Aq rfl (cC rfl (HB.out _ Af) ?_))⟩;rintro _ bg ⟨⟨⟩,az⟩;have X:=X.ext az;refine kR ?_
     all_goals exact ⟨by rw [decide_eq_decide.2 Int.ofNat_lt],X⟩
 . rw [AT h1];refine Ad func89 ntmps89 rfl rfl (cS (eB [_,_] ?_));intro bm a0 a8 a9 _ _;revert hp h X;refine eE a9 ?_;intro hp h X;refine eK ?_;refine Ap (λG=>Ext a0 G) 5 (.pure 0 (.pure 1 (.pure 3 (.pure 4 (.fork 2 .tail .none))))) mixed AR (Aa (Aa Ag)) ?_;intro ba a1 _;have aa:(λG=>Ext a0 G) ba:=a1;simp only at aa;have ad:=a8;revert hp h X;refine eE a1 ?_;intro hp h X;refine ⟨aa,(Tq rfl (xL [_,_] (λG hz=>(my ad hz))) (Tq rfl Mv (Tq rfl (xL [_,_] (λG hz=>(my ad hz))) (Tq rfl Mv (tC rfl rfl (HX.out _ Af Af) ?_)))))⟩;rintro _ bh ⟨⟨⟩,a2⟩;revert aa hp h X;refine eE a2 ?_;intro aa hp h X;refine ⟨aa,(Aq rfl (cC rfl (HY.out _ Af Af) ?_))⟩;rintro _ bi ⟨⟨⟩,a3⟩;have X:=X.ext a3;refine kR ?_;all_goals exact ⟨rfl,X⟩
def F5 (lt:Bf->Bf->Bool) (ns:List Bf):List Bf:=ns.foldl (λo a=>if a∈o then o else E6 lt a o) []
def N3 (lt:Bf->Bf->Bool) (ns:List Bf) (x:Bf):F5 lt (ns++[x])=if x∈F5 lt ns then F5 lt ns else E6 lt x (F5 lt ns):=by
 unfold F5;rw [List.foldl_append];rfl
def I3 {lt:Bf->Bf->Bool} {x:Bf}:∀(l:List Bf) (k:Nat),k<=l.length->(∀y∈l.take k,lt y x=true)->(∀y,l[k]? = some y->lt y x=false)->E6 lt x l=l.take k++[x]++l.drop k
 | [],k,h,_,_=>by simp at h;subst h;rfl
 | y::r,0,_,_,G=>by
  have:=G y rfl;simp [E6,this]
 | y::r,k+1,h,N,G=>by
  have O:=N y AQ;simp only [E6,O,if_true,iU,ki,jX];rw [I3 r k (by simpa using h) (λz M=>N z (by simp [M])) (λz M=>G z (by simpa using M))]
def MQ {lt:Bf->Bf->Bool} {x:Bf}:∀l:List Bf,(E6 lt x l).length=l.length+1
 | []=>rfl
 | y::r=>by unfold E6;split<;>simp [MQ r]
def XI (lt:Bf->Bf->Bool) (ns:List Bf):(F5 lt ns).length<=ns.length:=by
 induction h:ns.length generalizing ns with
 | zero=>rw [kq h];simp [F5]
 | succ n M=>
  have G:ns≠[]:=by rintro rfl;simp at h
  rw [<-List.dropLast_concat_getLast G,N3];have N:ns.dropLast.length=n:=by rw [lI];omega
  have:=M _ N;split
  . omega
  . rw [MQ];omega
def XJ {x:Bf} {l:List Bf} (h:j<l.length):(l.take (j+1)).any (λy=>decide (y=x))=((l.take j).any (λy=>decide (y=x))||decide (l[j]=x)):=by
 rw [gC h,List.any_append];simp
def Ko (h:Rows S w (xs.map str) a) (k:Nat):Rows S w ((xs.take k).map str) a:=by
 rcases h with h|⟨b,o,M,N,O⟩
 . rw [List.map_eq_nil_iff] at h;subst h;exact gA AQ
 . refine gB ⟨b,o,M,N,λi v G=>O i v ?_⟩;rw [List.map_take,lP] at G;split at G
   . exact G
   . cases G
def Kq {cap k:Nat} (h:Rows S w (xs.map str) a) (V:k<=xs.length) (X:xs.length<=cap):Rows S w ((xs.drop k).map str) (if cap=k then a else a.map (·.add (k*1))):=by
 split
 . rw [iZ Ab];exact gA rfl
 . rcases h with h|⟨b,o,rfl,N,O⟩
   . rw [List.map_eq_nil_iff] at h;subst h;exact gA AQ
   . refine gB ⟨b,o+k,?_,N,λi v M=>?_⟩
     . rw [kI];unfold jY;by_cases G:k=0<;>simp [G]
     . rw [List.map_drop,List.getElem?_drop] at M;have:=O (k+i) v M;have e:(⟨b,o,none⟩:Addr).add (k+i)=(⟨b,o+k,none⟩:Addr).add i:=by
        unfold jY;by_cases G:i=0<;>by_cases U:k=0<;>simp [G,U,lG]
       rwa [e] at this
def Vc {e B:Nat} {g cap n:Nat} (h:OwnF e 1 B w g cap n cs) (G:xs.map str=cs):Rows (λb=>B<=b) w (xs.map str) (some ⟨g,0,none⟩):=by
 rw [G];exact h.rows h.1
def ZH {e B:Nat} {g cap n m:Nat} (h:OwnF e 1 B w g cap n cs) (G:n=m):m<=cap:=G▸h.le
def Rh (l:List Bf):(l.map str).all Value.one=true:=by
 rw [iJ];intro v h;obtain ⟨x,-,rfl⟩:=List.mem_map.1 h;rfl
def NamS (xs:List Bf) (w:wD):Ending->wD->Prop:=λe w'=> ∃a c,e = .returned (.slice a xs.length c)/\Rows (λb=>w.heap.size<=b) w' (xs.map str) a/\Ext w w'
def NamS.ret {w':wD} {e:Ending} (h:NamS xs w e w'):∃v,e = .returned v:=by
 obtain ⟨_,_,h,-⟩:=h;exact ⟨_,h⟩
set_option maxHeartbeats 8000000 in
def K0 (U:List Int) (bz:U.length<=1000) (b0:∀p∈U,0<=p/\p<=1000) (R:List AtR) (hR:R.length<=1000) (rk:Bool) (S:nP) (pa:oA) (pc:Nat) (la:oA) (lc:Nat) (w:wD) (N:Rows S w (AX U) pa) (h:Ats S w R la) :
 Calls prog 52 #[.agg #[.slice pa U.length pc,.slice la R.length lc],.bool rk] w (NamS (F5 (Z5 R U rk) (R.map (·.s))) w):=by
 have X:=Ne w;have h:=h.ltA;have N:=N.ltA;have HB:=fZ (λx y w1 h1 h2=>XH U bz b0 R Ab rk x y (· < w.heap.size) pa pc la lc w1 h1 h2);generalize Z5 R U rk=lt at *;refine Ad func52 ntmps52 rfl rfl ?_;refine cS (eB [_,_] ?_);intro b1 w2 M x5 p6 z7;revert X h N;refine eE x5 ?_;intro X h N;refine C1 Pa (cN (C1 Pa (cT (Aj (cS (C1 Pa (cT ?_)))))));refine As ?_;refine AF (ι:=Nat×oA×Nat) (λx=>[(1,.bool rk),(2,.pointer (some ⟨b1,0,none⟩)),(5,.slice x.2.1 (F5 lt ((R.take x.1).map (·.s))).length x.2.2),(6,.int .i64 x.1)])
  (λx w'=>x.1<=R.length/\Rows (λb=>w.heap.size<=b) w' ((F5 lt ((R.take x.1).map (·.s))).map str) x.2.1/\(F5 lt ((R.take x.1).map (·.s))).length<=x.2.2/\Blk w' b1 [.slice pa U.length pc,.slice la R.length lc]/\Rows (· < w.heap.size) w' (AX U) pa/\Ats (· < w.heap.size) w' R la/\Ext w w') (λx=>R.length-x.1) (0,none,0) sB ⟨gI _,gA rfl,gP _,M,N,h,X⟩ ?_
 clear h M N X;rintro ⟨j,oa,oc⟩ w1 ⟨hj,O,ag,M,N,h,X⟩;simp only at hj O ag;refine m7 (m:=[(1,.bool rk),(2,.pointer (some ⟨b1,0,none⟩)),(5,.slice oa (F5 lt ((R.take j).map (·.s))).length oc),(6,.int .i64 j)]) ?_ sB;have hz:=X.size;have ay:=M.lt;by_cases an:j<R.length
 . obtain ⟨b,o,rfl,rx⟩:=Sz h an;have Z:F5 lt ((R.take (j+1)).map (·.s))=if R[j].s∈F5 lt ((R.take j).map (·.s)) then F5 lt ((R.take j).map (·.s)) else E6 lt R[j].s (F5 lt ((R.take j).map (·.s))):=by
    rw [gC an,jE];exact N3 ..
   have d7:(F5 lt ((R.take j).map (·.s))).length<=1000:=by
    have:=XI lt ((R.take j).map (·.s));rw [jJ,iE] at this;omega
   generalize F5 lt ((R.take j).map (·.s))=out at *;generalize R[j]=x at *;obtain ⟨xs,xk,xo⟩:=x;simp only [MO] at rx Z;have a9:=fZ (λy=>HB.out y xs);clear HB;refine Aj (cS (C1 Mv (C1 Pf (C1 (Pl M) (C1 Pz (C1 V3 (cT (Ll (Am (Ai (Aj ?_)))))))))));refine As (cS (C1 Pf (C1 (Pl M) (C1 Mv (C1 Pi (C1 Pg (C1 (MR rx) (C1 Pa (cN (C1 Pa (C1 Pa ?_)))))))))));refine cT (Aj (cS (C1 Pa (cT ?_))));refine As ?_;refine AF (ι:=Nat×Bool) (λz=>[(1,.bool rk),(2,.pointer (some ⟨b1,0,none⟩)),(5,.slice oa out.length oc),(6,.int .i64 j),(7,str xs),(8,.int .i64 0),(9,.bool z.2),(10,.int .i64 z.1)])
    (λz w'=>z.1<=out.length/\w'=w1/\(out.take z.1).any (λy=>decide (y=xs))=z.2) (λz=>out.length-z.1) (0,false) sB ⟨gI _,rfl,rfl⟩ ?_
   rintro ⟨k,q⟩ _ ⟨hk,rfl,hq⟩;simp only at hk hq;refine m7 (m:=[(1,.bool rk),(2,.pointer (some ⟨b1,0,none⟩)),(5,.slice oa out.length oc),(6,.int .i64 j),(7,str xs),(8,.int .i64 0),(9,.bool q),(10,.int .i64 k)]) ?_ sB;by_cases aa:k<out.length
   . have ao:=XJ (x:=xs) aa;rw [hq] at ao;rcases O with O|⟨g,og,rfl,s1,r1⟩
     . rw [List.map_eq_nil_iff] at O;rw [O] at aa;simp at aa
     have ry:Row _ ⟨g,og+k*1,none⟩ [str out[k]]:=I1 r1 (by rw [iD,fY aa];rfl);clear hq;generalize out[k]=y at *;cases q
     . by_cases hy:y=xs
       . refine Aj (cS (C1 Mv (C1 Mv (C1 Pz (C1 V3 (cT (Ll (Am (Ai (Aj (As ?_)))))))))));refine Ak (C1 Mv (C1 Mv (AP rfl rfl rfl (rfl) (C1 Mv (AP rfl rfl rfl (rfl) (C1 Mv (AP rfl rfl rfl (rfl) (C1 Pi (AP rfl rfl rfl (rfl) (C1 (MR ry) (AP rfl rfl rfl (rfl) ?_)))))))))));refine C1 Mv (AP rfl rfl rfl (rfl) (C1 V8 (C1 (Bu rfl rfl rfl) (C1 Pa (Al (Ah (Ai (Ak (C1 Mv (C1 V7 (C1 Pa ?_)))))))))));refine Al ?_;exact Av (k+1,true) (by (refine An rfl ?_;refine An rfl ?_;refine An rfl ?_;refine An rfl ?_;refine An rfl ?_;refine An rfl ?_;refine BO rfl (by go_num) ?_;refine An rfl ?_;exact BE)) ⟨aa,rfl,ao.trans (by simp [hy])⟩ (by simp only;omega)
       . refine Aj (cS (C1 Mv (C1 Mv (C1 Pz (C1 V3 (cT (Ll (Am (Ai (Aj (As ?_)))))))))));refine Ak (C1 Mv (C1 Mv (AP rfl rfl rfl (rfl) (C1 Mv (AP rfl rfl rfl (rfl) (C1 Mv (AP rfl rfl rfl (rfl) (C1 Pi (AP rfl rfl rfl (rfl) (C1 (MR ry) (AP rfl rfl rfl (rfl) ?_)))))))))));refine C1 Mv (AP rfl rfl rfl (rfl) (C1 V8 (C1 (Bu rfl rfl rfl) (C1 Pa (Al (Ah (Ai (Ak (C1 Mv (C1 V7 (C1 Pa ?_)))))))))));refine Al ?_;exact Av (k+1,false) (by (refine An rfl ?_;refine An rfl ?_;refine An rfl ?_;refine An rfl ?_;refine An rfl ?_;refine An rfl ?_;refine BO rfl (by go_num) ?_;refine An rfl ?_;exact BE)) ⟨aa,rfl,ao.trans (by simp [hy])⟩ (by simp only;omega)
     . refine Aj (cS (C1 Mv (C1 Mv (C1 Pz (C1 V3 (cT (Ll (Am (Ai (Aj (As ?_)))))))))));refine Ak (C1 Mv (C1 Mv (A7 rfl rfl rfl (rfl) rfl (A7 rfl rfl rfl (rfl) rfl (A7 rfl rfl rfl (rfl) rfl (A7 rfl rfl rfl (rfl) rfl (A7 rfl rfl rfl (rfl) rfl (A7 rfl rfl rfl (rfl) rfl (C1 (B3 rfl rfl rfl) (C1 Pa (Al ?_)))))))))));refine Ah (Ai (Ak (C1 Mv (C1 V7 (C1 Pa (Al ?_))))));exact Av (k+1,true) sB ⟨aa,rfl,ao.trans AQ⟩ (by simp only;omega)
   . obtain rfl:k=out.length:=by omega
     rw [gL] at hq;have az:q=decide (xs∈out):=by rw [<-hq];apply jV.2;simp
     cases q
     . have ah:xs∉out:=by simpa using az.symm
       rw [AC ah] at Z;clear az hq ah;refine Aj (cS (C1 Mv (C1 Mv (C1 Pz (C1 V3 (cT (Dd (BF (Ay (Ay (AS ?_)))))))))));refine Ai (Aj (cS (C1 Mv (cT (AO rfl (Am (Ai ?_)))))));refine ED (ι:=Nat) (λat_=>[(1,.bool rk),(2,.pointer (some ⟨b1,0,none⟩)),(5,.slice oa out.length oc),(6,.int .i64 j),(7,str xs),(8,.int .i64 at_)])
        (λat_ w'=>at_<=out.length/\E6 lt xs out=out.take at_++[xs]++out.drop at_/\Blk w' b1 [.slice pa U.length pc,.slice (some ⟨b,o,none⟩) R.length lc]/\Rows (λb=>w.heap.size<=b) w' (out.map str) oa/\Rows (· < w.heap.size) w' (AX U) pa/\Ats (· < w.heap.size) w' R (some ⟨b,o,none⟩)/\Ext w w') ?_ ?_
       . refine As ?_;refine AF (ι:=Nat) (λat_=>[(1,.bool rk),(2,.pointer (some ⟨b1,0,none⟩)),(5,.slice oa out.length oc),(6,.int .i64 j),(7,str xs),(8,.int .i64 at_)])
          (λat_ w'=>at_<=out.length/\(∀y∈out.take at_,lt y xs=true)/\Blk w' b1 [.slice pa U.length pc,.slice (some ⟨b,o,none⟩) R.length lc]/\Rows (λb=>w.heap.size<=b) w' (out.map str) oa/\Rows (· < w.heap.size) w' (AX U) pa/\Ats (· < w.heap.size) w' R (some ⟨b,o,none⟩)/\Ext w w') (λat_=>out.length-at_) 0 sB ⟨gI _,AQ,M,O,N,h,X⟩ ?_
         clear M O N h X rx hz ay;rintro at_ w3 ⟨Y,hb,M,O,N,h,X⟩;by_cases ab:at_<out.length
         . rcases O with O|⟨g,og,rfl,s1,r1⟩
           . rw [List.map_eq_nil_iff] at O;rw [O] at ab;simp at ab
           have ry:Row w3 ⟨g,og+at_*1,none⟩ [str out[at_]]:=I1 r1 (by rw [iD,fY ab];rfl);have O:Rows (λb=>w.heap.size<=b) w3 (out.map str) (some ⟨g,og,none⟩):=gB ⟨g,og,rfl,s1,r1⟩;have ai:lt out[at_] xs=true -> ∀y∈out.take (at_+1),lt y xs=true:=λh1 y hy=>by
            rw [gC ab,jA,iB] at hy;rcases hy with hy|rfl
            . exact hb y hy
            . exact h1
           have ah:lt out[at_] xs=false->E6 lt xs out=out.take at_++[xs]++out.drop at_:=λh1=>I3 out at_ Y hb (λy hy=>by rw [fY ab] at hy;rw [<-gJ hy];exact h1)
           have ap:=fZ (a9.out out[at_]);clear r1 hb;generalize out[at_]=y at *;cases hly:lt y xs
           . rw [hly] at ap;have hq:=ah hly;clear ai ah hly
             focus
              refine eK ?_;refine Ap (λV=>Ext w3 V) 12 (.pure 0 (.pure 1 (.pure 2 (.pure 3 (.pure 4 (.pure 5 (.pure 6 (.pure 7 (.pure 8 (.pure 9 (.pure 10 (.pure 11 .tail)))))))))))) mixed AR (Aa (Aa (Aa (Ae (Aa (Ae (Aa (Aa (Ae (Aa Ag)))))))))) ?_;intro b2 ba _;have aq:(λV=>Ext w3 V) b2:=ba;simp only at aq;have aj:=M;have ak:=ry;revert M N h X O;refine eE ba ?_;intro M N h X O;refine ⟨aq,?_⟩;refine eT ?_;refine eN rfl (xL [_,_] (λV hz=>(my aj hz))) (eN rfl (Aw rfl) (eN rfl (Aw rfl) (eN rfl (AK Ac rfl rfl rfl rfl Ab Ab) (eN rfl (Ar Ac rfl rfl rfl (λV hz=>mE (mw ak hz) rfl)) (eN rfl (Aw rfl) (eN rfl (Aw rfl) ?_))))));refine Aq rfl (ZP (cC rfl (ap.out _ Af Af) ?_));rintro _ d8 ⟨⟨⟩,b3⟩;revert M N h X O;refine eE b3 ?_;intro M N h X O;refine C1 Vs (cT (AO rfl (BF (Ay (Ay (AS ?_))))));rotate_left
             all_goals exact BC at_ sB ⟨Y,hq,M,O,N,h,X⟩
           . rw [hly] at ap;have hq:=ai hly;clear ai ah hly
             focus
              refine eK ?_;refine Ap (λV=>Ext w3 V) 12 (.pure 0 (.pure 1 (.pure 2 (.pure 3 (.pure 4 (.pure 5 (.pure 6 (.pure 7 (.pure 8 (.pure 9 (.pure 10 (.pure 11 .tail)))))))))))) mixed AR (Aa (Aa (Aa (Ae (Aa (Ae (Aa (Aa (Ae (Aa Ag)))))))))) ?_;intro b4 bb _;have ar:(λV=>Ext w3 V) b4:=bb;simp only at ar;have aj:=M;have ak:=ry;revert M N h X O;refine eE bb ?_;intro M N h X O;refine ⟨ar,?_⟩;refine eT ?_;refine eN rfl (xL [_,_] (λV hz=>(my aj hz))) (eN rfl (Aw rfl) (eN rfl (Aw rfl) (eN rfl (AK Ac rfl rfl rfl rfl Ab Ab) (eN rfl (Ar Ac rfl rfl rfl (λV hz=>mE (mw ak hz) rfl)) (eN rfl (Aw rfl) (eN rfl (Aw rfl) ?_))))));refine Aq rfl (ZP (cC rfl (ap.out _ Af Af) ?_));rintro _ d9 ⟨⟨⟩,b5⟩;revert M N h X O;refine eE b5 ?_;intro M N h X O;refine C1 Vs (cT (Bq rfl (Am (Ai (As (Ak (C1 Mv (C1 V7 (C1 Pa (Al (Ah ?_)))))))))));rotate_left
             all_goals exact Av (at_+1) sB ⟨ab,hq,M,O,N,h,X⟩ Ab
         . have hq:=I3 out at_ Y hb (λy hy=>absurd (List.getElem?_eq_some_iff.1 hy).1 ab);clear hb;refine eK ?_;refine Ap (λV=>Ext w3 V) 12 (.pure 0 (.pure 1 (.pure 2 (.pure 3 (.pure 4 (.pure 5 (.pure 6 (.pure 7 (.pure 8 (.pure 9 (.pure 10 (.pure 11 .tail)))))))))))) mixed AR (Aa (Aa (Aa (Ae (Aa (Ae (Aa (Aa (Ae (Aa Ag)))))))))) ?_;intro b6 bc _;have au:(λV=>Ext w3 V) b6:=bc;simp only at au;revert M O N h X;refine eE bc ?_;intro M O N h X;refine ⟨au,?_⟩;refine Tq rfl Mv (Tq rfl Mv (Tq rfl Pz (Tq rfl V3 (Tq rfl Mv (eM rfl (eM rfl (eM rfl (eM rfl (eM rfl (eM rfl (eM rfl ?_)))))))))));refine Aq rfl (fK (C1 MV (cT (AO rfl (BF (Ay (Ay (AS ?_))))))));all_goals exact BC at_ sB ⟨Y,hq,M,O,N,h,X⟩
       . clear M O N h X rx hz ay a9;rintro at_ w3 ⟨Y,hq,M,O,N,h,X⟩;have O:=O.ltA;have ay:=M.lt;have a0:((out.take at_).map str).length=at_*1:=by rw [jJ,iE];omega
         have a1:((out.drop at_).map str).length=(out.length-at_)*1:=by rw [jJ,ky];omega
         have a2:=Rh (out.take at_);have a3:=Rh (out.drop at_);have bd:0+at_+1+(out.length-at_)=(F5 lt ((R.take (j+1)).map (·.s))).length:=by rw [Z,MQ];omega
         rw [hq] at Z
         focus
          refine Ap (λV=>Ext w3 V) 11 (.pure 1 (.pure 2 (.pure 3 (.pure 5 (.pure 8 (.pure 9 (.pure 10 (.fork 0 (.fork 4 (.fork 6 (.fork 7 .tail .none) .none) (.fork 6 (.fork 4 (.fork 7 .tail .none) .none) .none)) (.fork 6 (.fork 0 (.fork 4 (.fork 7 .tail .none) .none) .none) .none))))))))) mixed AR (Ae (Aa (Aa (Ae (Aa Ag))))) ?_;intro b7 be _;have G:(λV=>Ext w3 V) b7:=be;simp only at G;revert M N h X O;refine eY be ?_;intro ea M N h X O;refine ⟨G,?_⟩;refine Tq rfl Mv (Tq rfl Mv (Tq rfl (Dn (m:=at_) Ac rfl rfl rfl rfl rfl Ab) ?_));refine eT ?_;refine Tq rfl (Yq (m:=at_) Ac rfl rfl rfl rfl rfl Ab) ?_;refine Ax rfl (DB (B:=w.heap.size) Ac rfl rfl Ab) rfl ?_ aFh ?kri5;rintro _ ct ⟨eb,rfl,bf,ec,ed,bg⟩;revert G M N h X O;refine eE bg ?_;intro G M N h X O;refine ⟨G,?_⟩;refine Ax rfl (Bo (ds:=(out.take at_).map str) Ac Ca rfl rfl rfl rfl AR rfl rfl rfl Af (Ko Af _) a0 a2 Ab) rfl ?_ aFh ?kri13;rintro _ cu ⟨b8,bh,rfl,av,cv,cw,aw⟩;have cx:=aw.size;revert G M N h X O;refine eF aw ?_;intro G M N h X O;refine ⟨G,?_⟩;refine Ax rfl (xS [_]) rfl ?_ aFh Au;rintro _ cy ⟨cz,rfl,ac,c0⟩;have c1:=ac.blk;have bi:=ac.ext;have c2:=ac.pos;have c3:=ac.size;revert av G M N h X O;refine eE bi ?_;intro av G M N h X O;refine ⟨G,?_⟩;refine Ax rfl (Bo (ds:=[str xs]) Ac Ca rfl rfl rfl rfl AR rfl rfl rfl Af (Gq Af) rfl rfl Ab) rfl ?_ aFh Au;rintro _ c4 ⟨b9,bj,rfl,c5,c6,c7,bk⟩;revert G M N h X O;refine eF bk ?_;intro G M N h X O;refine ⟨G,?_⟩;refine Aq rfl ?_;refine Az (Bo (ds:=(out.drop at_).map str) Ac Ca rfl rfl rfl rfl AR rfl rfl rfl Af (Kq Af Y ag) a1 a3 Ab) rfl ?_ aFh;rintro _ c8 ⟨ca,bl,rfl,c9,da,db,bm⟩;revert M N h X;refine eF bm ?_;intro M N h X;refine C1 Pa (Al (Ah (Ai (Ak (C1 Mv (C1 V7 (C1 Pa (Al ?_))))))));rotate_left;refine Ax rfl (xS [_]) rfl ?_ aFh Au;rintro _ dc ⟨dd,rfl,ad,de⟩;have ax:=ad.blk;have bn:=ad.ext;have df:=ad.pos;have dg:=ad.size;revert bf G M N h X O;refine eE bn ?_;intro bf G M N h X O
          refine ⟨G,?_⟩;refine Ax rfl (Bo (ds:=(out.take at_).map str) Ac Ca rfl rfl rfl rfl AR rfl rfl rfl Af (Ko Af _) a0 a2 Ab) rfl ?_ aFh Au;rintro _ dh ⟨cb,bo,rfl,di,dk,dl,al⟩;have dm:=al.size;have ax:=ax.fr al Ab;revert G M N h X O;refine eF al ?_;intro G M N h X O;refine ⟨G,?_⟩;refine Ax rfl (Bo (ds:=[str xs]) Ac Ca rfl rfl rfl rfl AR rfl rfl rfl Af (Gq Af) rfl rfl Ab) rfl ?_ aFh Au;rintro _ dn ⟨cc,bp,rfl,dp,dq,dr,bq⟩;revert G M N h X O;refine eF bq ?_;intro G M N h X O;refine ⟨G,?_⟩;refine Aq rfl ?_;refine Az (Bo (ds:=(out.drop at_).map str) Ac Ca rfl rfl rfl rfl AR rfl rfl rfl Af (Kq Af Y ag) a1 a3 Ab) rfl ?_ aFh;rintro _ dt ⟨cd,br,rfl,du,dv,dw,bs⟩;revert M N h X;refine eF bs ?_;intro M N h X;refine C1 Pa (Al (Ah (Ai (Ak (C1 Mv (C1 V7 (C1 Pa (Al ?_))))))));rotate_left;refine Ax rfl (xS [_]) rfl ?_ aFh Au;rintro _ dx ⟨dy,rfl,ae,dz⟩;have af:=ae.blk;have bt:=ae.ext;have d0:=ae.pos;have d1:=ae.size;revert G M N h X O;refine eE bt ?_;intro G M N h X O;refine ⟨G,?_⟩;refine Ax rfl (DB (B:=w.heap.size) Ac rfl rfl Ab) rfl ?_ aFh Au;rintro _ d2 ⟨d3,rfl,d4,d5,d6,bu⟩;revert af G M N h X O;refine eE bu ?_;intro af G M N h X O;refine ⟨G,?_⟩;refine Ax rfl (Bo (ds:=(out.take at_).map str) Ac Ca rfl rfl rfl rfl AR rfl rfl rfl Af (Ko Af _) a0 a2 Ab) rfl ?_ aFh Au;rintro _ ce ⟨bv,a6,rfl,cf,cg,ch,am⟩;have ci:=am.size;revert af G M N h X O;refine eF am ?_;intro af G M N h X O;refine ⟨G,?_⟩;refine Ax rfl (Bo (ds:=[str xs]) Ac Ca rfl rfl rfl rfl AR rfl rfl rfl Af (Gq Af) rfl rfl Ab) rfl ?_ aFh Au;rintro _ cj ⟨bw,a7,rfl,ck,cl,cm,a4⟩;revert G M N h X O;refine eF a4 ?_;intro G M N h X O;refine ⟨G,?_⟩;refine Aq rfl ?_;refine Az (Bo (ds:=(out.drop at_).map str) Ac Ca rfl rfl rfl rfl AR rfl rfl rfl Af (Kq Af Y ag) a1 a3 Ab) rfl ?_ aFh
          rintro _ cn ⟨bx,a8,rfl,co,cp,cq,a5⟩;revert M N h X;refine eF a5 ?_;intro M N h X;refine C1 Pa (Al (Ah (Ai (Ak (C1 Mv (C1 V7 (C1 Pa (Al ?_))))))));rotate_left
         all_goals (rw [bd];exact Av (j+1,some ⟨_,0,none⟩,_) sC ⟨an,Vc Af (by rw [Z];simp),ZH Af bd,M,N,h,X⟩ (by simp only;omega))
     . have cr:xs∈out:=by simpa using az.symm
       rw [AT cr] at Z;rw [<-Z] at O ag ⊢;refine Aj (cS (C1 Mv (C1 Mv (C1 Pz (C1 V3 (cT (Dd (BF (Ay (Ay (AS ?_)))))))))));refine Ai (Aj (cS (C1 Mv (cT (Bq rfl (BF (Ay (AS (Ai (Ak (C1 Mv ?_)))))))))));refine C1 V7 (C1 Pa (Al ?_));exact Av (j+1,oa,oc) sB ⟨an,O,ag,M,N,h,X⟩ (by simp only;omega)
 . obtain rfl:j=R.length:=by omega
   rw [gL] at *;refine kR ?_;exact ⟨_,_,rfl,O,X⟩
def XK (lt:Bf->Bf->Bool) (L:List AtV):E7 lt L=F5 lt (L.map (·.s)):=by
 unfold E7 F5;rw [List.foldl_map]
def Vd (R:List AtR) (h:List Int):Z5 R h false=If:=by
 funext x y;unfold Z5 If;rw [AC AQ]
section
variable {es:List EX} {L:List AtV}
def O2 (G:(es.map (·.name)).Nodup) (M:∀a∈L,a.n∈es.map (·.name)) (s:Bf):FY (GV (es.map (·.name)) L) s 0 (es.map (·.points))=Cy L s (GO es):=by
 have h:(GO es).map (·.1)=es.map (·.name):=by simp [GO,Function.comp_def]
 have N:(GO es).map (·.2)=es.map (·.points):=by simp [GO,Function.comp_def]
 have:=Td (es:=GO es) (L:=L) (by rw [h];exact G) (by rw [h];exact M) s (GO es) 0 (λi=>by rw [iR]);rwa [h,N] at this
def XL (M:(es.map (·.name)).Nodup) (N:∀a∈L,a.n∈es.map (·.name)):Z5 (GV (es.map (·.name)) L) (es.map (·.points)) true=Nw L (GO es):=by
 funext x y;unfold Z5 Nw;rw [AT rfl,O2 M N,O2 M N,Ny x Ab,Ny y Ab];by_cases h:Cy L x (GO es)=Cy L y (GO es)
 . rw [AC (by simp [h])];by_cases G:Dy L x=Dy L y
   . rw [AC (by simp [G])];simp [h,G]
   . rw [AT G];simp [h,G]
 . rw [AT h];simp [h]
end
set_option maxHeartbeats 8000000 in
def ZI (M X:nP) (bb:Nat) (es:List EX) (be:es.length<=4) (hp:∀e∈es,0<=e.points/\e.points<=1000) (hn:(es.map (·.name)).Nodup) (L:List AtV) (hL:L.length<=12) (ac:∀a∈L,a.n∈es.map (·.name)) (s:Bf) (S S1 S2:nP) (ea:oA) (ec:Nat) (pa:oA) (pc:Nat) (la:oA) (lc:Nat) (w:wD)
 (Y:BkAt M X w bb es L) (U:EXs S w es ea) (N:Rows S1 w (AX (es.map (·.points))) pa) (O:Ats S2 w (GV (es.map (·.name)) L) la) :
 Calls prog 26 #[.pointer (some ⟨bb,0,none⟩),.agg #[.slice pa (es.map (·.points)).length pc,.slice la (GV (es.map (·.name)) L).length lc],.slice ea es.length ec,str s] w λe w'=>e = .returned (.bool true)/\Ext w w':=by
 have V:=Ne w;have U:=U.ltA;have N:=N.ltA;have O:=Rows.ltA O;have bf:(GV (es.map (·.name)) L).length<=12:=by unfold GV;rw [jJ];exact hL
 have af:(es.map (·.points)).length<=1000:=by rw [jJ];omega
 have ad:∀p∈es.map (·.points),0<=p/\p<=1000:=λp hq=>by obtain ⟨e,he,rfl⟩:=List.mem_map.1 hq;exact hp e he
 have ag:(GV (es.map (·.name)) L).map (·.s)=L.map (·.s):=UF;have ap:=fZ (λw1 h=>MN M X bb es L hL w1 h);have aq:=fZ (λw1 h=>NX M X bb es Ab hp L hL w1 h);have ar:=fZ (λw1 h=>JC M X bb es Ab hp L s w1 h);have au:=fZ (λn w1 h=>Mf M X bb es L s n w1 h);have ah:=fZ (λw1 h1 h2=>K0 (es.map (·.points)) af ad (GV (es.map (·.name)) L) Ab false (· < w.heap.size) pa pc la lc w1 h1 h2);have ai:=fZ (λw1 h1 h2=>K0 (es.map (·.points)) af ad (GV (es.map (·.name)) L) Ab true (· < w.heap.size) pa pc la lc w1 h1 h2);have aj:=fZ (λw1 h1 h2=>MP (es.map (·.points)) af ad (GV (es.map (·.name)) L) Ab s (· < w.heap.size) pa pc la lc w1 h1 h2);have av:=fZ (λ(k:Nat) w1 h=>I2 (GV (es.map (·.name)) L) Ab s k (· < w.heap.size) pa (es.map (·.points)).length pc la lc w1 h);rw [ag,Vd,<-XK] at ah;rw [ag,XL hn ac,<-XK] at ai;rw [O2 hn ac] at aj;have bg:(E7 If L).length<=12:=by have:=Hr If L [];simp only [iM] at this;unfold E7;omega
 have bh:(E7 (Nw L (GO es)) L).length<=12:=by have:=Hr (Nw L (GO es)) L [];simp only [iM] at this;unfold E7;omega
 have ae:∀(j:Nat) (hj:j<es.length),Gj (GV (es.map (·.name)) L) s (j:Int)=Dx L s es[j].name:=λj hj=>Wn hn ac (by rw [iD,fY hj];rfl) s
 clear hp hn ac ad ag;generalize es.map (·.points)=ay at *;generalize GV (es.map (·.name)) L=R at *;generalize E7 If L=xs at *;generalize E7 (Nw L (GO es)) L=ys at *;have ak:=fZ (λS S' a a' c c' w1 h1 h2=>Kn xs xs Ab S S' a a' c c' w1 h1 h2);have al:=fZ (λS S' a a' c c' w1 h1 h2=>Kn ys ys Ab S S' a a' c c' w1 h1 h2);rw [decide_eq_true rfl] at ak al;refine Ad func26 ntmps26 rfl rfl ?_;refine cS (eB [_,_] ?_);intro b1 w2 Z x5 _ _;revert Y V U N O;refine eE x5 ?_;intro Y V U N O;refine eK ?_;refine Ap (λwz=>Ext w2 wz) 20 (.pure 0 (.pure 2 (.fork 1 (.fork 3 (.fork 4 (.pure 5 (.pure 6 (.pure 7 (.pure 9 (.fork 8 (.fork 10 (.fork 11 (.pure 12 (.pure 13 (.pure 14 (.pure 15 (.pure 16 (.pure 18 (.pure 19 (.fork 17 .tail .none)))))))) .none) .none) .none))))) .none) .none) .none))) mixed AR (Aa (Aa Ag)) ?_;intro w8 x9 _;have G:(λwz=>Ext w2 wz) w8:=x9;simp only at G;have aa:=Z;revert Z Y V U N O;refine eE x9 ?_;intro Z Y V U N O;refine ⟨G,?_⟩;refine Tq rfl Mv (Tq rfl (xL [_,_] (λwz hz=>(my aa hz))) ?_);refine tC rfl rfl (ap.out _ Af) ?_;rintro _ bi ⟨bj,bk,⟨⟩,am,az⟩;revert G Z Y V U N O;refine eE az ?_;intro G Z Y V U N O;refine ⟨G,?_⟩;refine tC rfl rfl (ah.out _ Af Af) ?_;rintro _ bl ⟨bm,bn,⟨⟩,a0,a1⟩;revert am G Z Y V U N O;refine eE a1 ?_;intro am G Z Y V U N O;refine ⟨G,?_⟩;refine tC rfl rfl (ak.out _ _ _ _ _ _ _ (NamAt.rows Af) Af) ?_
 rintro _ bo ⟨⟨⟩,a2⟩;revert G Z Y V U N O;refine eE a2 ?_;intro G Z Y V U N O;refine ⟨G,?_⟩;refine eT ?_;refine eN rfl (xL [_,_] (λwz hz=>(my aa hz))) ?_;refine Fj rfl rfl rfl rfl (rfl) (AM AR rfl (aq.out _ Af) (λ_ _ h=>h.ret)) rfl ?_ aFh Au;rintro _ bp ⟨bq,br,⟨⟩,an,a3⟩;revert G Z Y V U N O;refine eE a3 ?_;intro G Z Y V U N O;refine ⟨G,?_⟩;refine Fj rfl rfl rfl rfl (rfl) (AM AR rfl (ai.out _ Af Af) (λ_ _ h=>h.ret)) rfl ?_ aFh Au;rintro _ bs ⟨bt,bu,⟨⟩,a4,a5⟩;revert an G Z Y V U N O;refine eE a5 ?_;intro an G Z Y V U N O;refine ⟨G,?_⟩;refine Fj rfl rfl rfl rfl (rfl) (AM AR rfl (al.out _ _ _ _ _ _ _ (NamAt.rows Af) Af) (λ_ _ h=>⟨_,h.1⟩)) rfl ?_ aFh Au;rintro _ bv ⟨⟨⟩,a6⟩;revert G Z Y V U N O;refine eE a6 ?_;intro G Z Y V U N O;refine ⟨G,?_⟩;refine eT ?_;refine eN rfl (xL [_,_] (λwz hz=>(my aa hz))) (eN rfl (Aw rfl) ?_);refine Fj rfl rfl rfl rfl (rfl) (AM AR rfl (ar.out _ Af) (λ_ _ h=>⟨_,h.1⟩)) rfl ?_ aFh Au;rintro _ bw ⟨⟨⟩,a7⟩;revert G Z Y V U N O;refine eE a7 ?_;intro G Z Y V U N O;refine ⟨G,?_⟩;refine Aq rfl (AP rfl rfl rfl (rfl) (cC rfl (aj.out _ Af Af) ?_));rintro _ bx ⟨⟨⟩,a8⟩;revert Z Y V U O;refine eE a8 ?_;intro Z Y V U O;refine AP rfl rfl rfl (rfl) (C1 V2 (C1 (Bu rfl rfl rfl) (cT (Dd (Am (Ai (Aj (cS (C1 Pa (cT ?_))))))))))
 refine As ?_;refine AF (ι:=Nat) (λi=>[(0,.pointer (some ⟨bb,0,none⟩)),(2,.slice ea es.length ec),(3,str s),(5,.pointer (some ⟨b1,0,none⟩)),(9,.int .i64 i)])
  (λi w'=>i<=es.length/\BkAt M X w' bb es L/\Blk w' b1 [.slice pa ay.length pc,.slice la R.length lc]/\EXs (· < w.heap.size) w' es ea/\Rows (· < w.heap.size) w' (R.flatMap MO) la/\Ext w w') (λi=>es.length-i) 0 sB ⟨gI _,Y,Z,U,O,V⟩ ?_
 clear Y Z U O V N a4 an a0 am ak al ap aq ar ah ai aj;rintro i w1 ⟨hi,Y,Z,U,O,V⟩;by_cases ao:i<es.length
 . obtain ⟨kb,ko,rfl,-,hk⟩:=mM U Ab;obtain ⟨va,vc,bz,b0,ma,mc,rx,-⟩:=hk i es[i] (fY ao);have H1:=fZ (au.out es[i].name);have H2:=fZ (av.out i);rw [ae i ao] at H2;clear hk au av ae;generalize es[i]=x at *;generalize Dx L s x.name=q at *;unfold mZ at *;refine eK ?_;refine Ap (λwz=>Ext w1 wz) 11 (.pure 0 (.pure 1 (.pure 2 (.pure 3 (.pure 4 (.pure 5 (.pure 6 (.pure 8 (.pure 9 (.pure 10 (.fork 7 .tail .none))))))))))) mixed AR (Aa (Ae (Aa (Aa (Ae (Aa Ag)))))) ?_;intro a9 aw _;have ab:(λwz=>Ext w1 wz) a9:=aw;simp only at ab;have aa:=Z;have ax:=rx;revert Y Z O V U;refine eE aw ?_;intro Y Z O V U;refine ⟨ab,?_⟩;refine eT ?_;refine Tq rfl (Ar Ac rfl rfl rfl (λwz hz=>mE (mw ax hz) rfl)) (Tq rfl (xL [_,_] (λwz hz=>(my aa hz))) (Tq rfl Mv (Tq rfl Mv ?_)));refine tC rfl rfl (H1.out _ Af) ?_;rintro _ b2 ⟨⟨⟩,ba⟩;revert ab Y Z O V U;refine eE ba ?_;intro ab Y Z O V U;refine ⟨ab,?_⟩;refine Aq rfl (cC rfl (H2.out _ Af) ?_);rintro _ bd ⟨⟨⟩,bc⟩;revert Y Z O V U;refine eE bc ?_;intro Y Z O V U;refine C1 V2 (cT (Dd (Am (Ah (Ai (Ak (C1 Mv (C1 V7 (C1 Pa (Al ?_))))))))));all_goals exact Av (i+1) sB ⟨ao,Y,Z,U,O,V⟩ Ab
 . obtain rfl:i=es.length:=by omega
   refine kR ?_;exact ⟨rfl,V⟩
def XM {P:Program} {n:Nat} {l:Sl} {S:wD->Prop} {tab:Tab} {t ty sz:Nat} {x y:Operand} {p:Bool} (T:TabOk P tab) (G:AB tab t=some (.bool,sz)) (M:ev l x=some (.bool p)) (N:ev l y=some (.bool p)):Bm P n l S (.binOp .eql t x y j) ty (.bool true):=by
 unfold Bm;intro _ w O pos after g h _;have U:(eqGuard .eql t x y (.bool p) (.bool p)).run P w = .ok () w:=by unfold eqGuard;simp
 have V:P.underlying t=some .bool:=(T _ _ _ G).under;have X:(Op.equal t (.bool p) (.bool p)).run P w = .ok true w:=by
  show (Op.equalIn (9999+1) t (.bool p) (.bool p)).run P w=_;unfold Op.equalIn;simp [AD V,gF]
 simp [execOp,h.ev M,h.ev N,U,X,binOp]
def SC (xs:List Int) (hx:xs.length<=1000000) (S S':nP) (a a':oA) (c c':Nat) (w:wD) (M:Rows S w (AX xs) a) (N:Rows S' w (AX xs) a') :
 Calls prog 60 #[.slice a xs.length c,.slice a' xs.length c'] w λe w'=>e = .returned (.bool true)/\Ext w w':=by
 have X:=Ne w;refine Ad func60 ntmps60 rfl rfl ?_;refine cS (C1 Pa (cT (Aj (cS (C1 Mv (C1 Pz (C1 Mv (C1 Pz (C1 V2 (cT (Dd ?_)))))))))));refine Am (Ai (Aj (cS (C1 Pa (cT ?_)))));refine As ?_;refine AF (ι:=Nat) (λj=>[(0,.slice a xs.length c),(1,.slice a' xs.length c'),(5,.int .i64 j)])
  (λj w'=>j<=xs.length/\Rows S w' (AX xs) a/\Rows S' w' (AX xs) a'/\Ext w w') (λj=>xs.length-j) 0 sB ⟨gI _,M,N,X⟩ ?_
 clear M N X;rintro j w1 ⟨hj,M,N,X⟩;by_cases G:j<xs.length
 . rcases M with h|⟨g,o,rfl,s1,r1⟩
   . rw [List.map_eq_nil_iff] at h;rw [h] at G;simp at G
   rcases N with h|⟨g',o',rfl,s2,r2⟩
   . rw [List.map_eq_nil_iff] at h;rw [h] at G;simp at G
   have rx:Row w1 ⟨g,o+j*1,none⟩ [.int .i64 xs[j]]:=I1 r1 (by rw [iD,fY G];rfl);have ry:Row w1 ⟨g',o'+j*1,none⟩ [.int .i64 xs[j]]:=I1 r2 (by rw [iD,fY G];rfl);have M:Rows S w1 (AX xs) (some ⟨g,o,none⟩):=gB ⟨g,o,rfl,s1,r1⟩;have N:Rows S' w1 (AX xs) (some ⟨g',o',none⟩):=gB ⟨g',o',rfl,s2,r2⟩;generalize xs[j]=x at *;refine eK ?_;refine Ap (λU=>Ext w1 U) 8 (.pure 0 (.pure 1 (.pure 2 (.pure 3 (.pure 4 (.pure 5 (.pure 6 (.pure 7 .tail)))))))) mixed AR (Aa (Ae (Aa (Aa (Ae (Aa Ag)))))) ?_;intro aa V _;have O:(λU=>Ext w1 U) aa:=V;simp only at O;have Y:=rx;have Z:=ry;revert X M N;refine eE V ?_;intro X M N;refine ⟨O,?_⟩;refine eT ?_;refine Tq rfl (Ar Ac rfl rfl rfl (λU hz=>mE (mw Y hz) rfl)) ?_;refine eT ?_;refine Tq rfl (Ar Ac rfl rfl rfl (λU hz=>mE (mw Z hz) rfl)) ?_;refine Aq rfl (C1 V2 (cT (Dd (Am (Ah (Ai (Ak (C1 Mv (C1 V7 (C1 Pa (Al ?_)))))))))));exact Av (j+1) sB ⟨Ab,M,N,X⟩ Ab
 . obtain rfl:j=xs.length:=by omega
   refine kR ?_;exact ⟨rfl,X⟩
set_option maxHeartbeats 8000000 in
def Ve (s:SV) (aq:s.small) (S S':nP) (a ta oa a' Y Z:oA) (c tc oc c' ad ae:Nat) (w:wD) (hs:s.sits S w a ta oa) (af:s.sits S' w a' Y Z) :
 Calls prog 32 #[.agg (s.row a c ta tc oa oc).toArray,.agg (s.row a' c' Y ad Z ae).toArray] w λe w'=>e = .returned (.bool true)/\Ext w w':=by
 have X:=Ne w;obtain ⟨cells,aa,tout⟩:=s;have U:=hs.cells.ltA;have q2:=hs.tin;have q3:=hs.tout;have G:=af.cells.ltA;have N:=af.tin;have O:=af.tout;obtain ⟨m1,m2,m3,m4⟩:=aq;clear hs af;simp only at *;have HI:=fZ (λw1 h h'=>SC aa m3 S S' ta Y tc ad w1 h h');have HO:=fZ (λw1 h h'=>SC tout m4 S S' oa Z oc ae w1 h h');change Calls prog _ #[.agg #[.slice a cells.length c,.slice ta aa.length tc,.slice oa tout.length oc],.agg #[.slice a' cells.length c',.slice Y aa.length ad,.slice Z tout.length ae]] w _;refine Ad func32 ntmps32 rfl rfl ?_;refine cS (eB [_,_,_] ?_);intro b1 w2 V x5 p6 z7;revert X U q2 q3 G N O;refine eE x5 ?_;intro X U q2 q3 G N O;refine eB [_,_,_] ?_;intro b8 w9 M ar a0 a1;revert V X U q2 q3 G N O;refine eE ar ?_;intro V X U q2 q3 G N O;refine kC (HI.out _ Af Af) ?_;rintro _ a2 ⟨⟨⟩,au⟩;revert M V X U q2 q3 G N O;refine eY au ?_;intro a3 M V X U q2 q3 G N O;refine kC (HO.out _ Af Af) ?_;rintro _ a4 ⟨⟨⟩,av⟩;revert M V X U q2 q3 G N O;refine eY av ?_;intro a5 M V X U q2 q3 G N O;refine AP rfl rfl rfl (rfl) (C1 Pt (C1 (Bu rfl rfl rfl) (cT (AO rfl (Am (Ai (Aj (cS (C1 Pa (cT ?_))))))))));refine As ?_;refine AF (ι:=Nat) (λj=>[(2,.pointer (some ⟨b1,0,none⟩)),(3,.pointer (some ⟨b8,0,none⟩)),(5,.int .i64 j)])
  (λj w'=>j<=cells.length/\Blk w' b1 [.slice a cells.length c,.slice ta aa.length tc,.slice oa tout.length oc]/\Blk w' b8 [.slice a' cells.length c',.slice Y aa.length ad,.slice Z tout.length ae]/\ICs (· < w.heap.size) w' cells a/\ICs (· < w.heap.size) w' cells a'/\Ext w w') (λj=>cells.length-j) 0 sB ⟨gI _,V,M,U,G,X⟩ ?_
 clear V M U G q2 N q3 O X HI HO;rintro j w1 ⟨hj,V,M,U,G,X⟩;by_cases ab:j<cells.length
 . obtain ⟨kb,ko,rfl,kS,hk⟩:=U.get (by intro e;subst e;simp at ab);obtain ⟨a6,a7,rfl,a8,ak⟩:=G.get (by intro e;subst e;simp at ab);obtain ⟨xa,xc,r1,v1⟩:=hk j _ (fY ab);obtain ⟨aw,ax,r2,v2⟩:=ak j _ (fY ab);have p1:=m2 _ (gK ab);clear hk ak;generalize cells[j]=x at *;have HP:=fZ (λw1 h h'=>SC x p1 (· < w.heap.size) (· < w.heap.size) xa aw xc ax w1 h h');refine eK ?_;refine Ap (λwz=>Ext w1 wz) 10 (.pure 0 (.pure 1 (.pure 2 (.pure 3 (.pure 4 (.pure 5 (.pure 6 (.pure 7 (.pure 8 (.pure 9 .tail)))))))))) mixed AR (Aa (Ae (Aa (Aa (Ae (Aa Ag)))))) ?_;intro ay al _;have ac:(λwz=>Ext w1 wz) ay:=al;simp only at ac;have am:=V;have an:=U;have ai:=M;have aj:=G;have ag:=r1;have ao:=v1;have ah:=r2;have ap:=v2;revert X V U M G r1 v1 r2 v2;refine eY al ?_;intro a9 X V U M G r1 v1 r2 v2;refine ⟨ac,?_⟩;refine eT ?_;refine Tq rfl (Ar Ac rfl rfl rfl (λwz hz=>mE (mw ag hz) rfl)) ?_;refine eT ?_;refine Tq rfl (Ar Ac rfl rfl rfl (λwz hz=>mE (mw ah hz) rfl)) ?_;clear ac am an ai aj ag ao ah ap;refine Aq rfl (cC rfl (HP.out _ Af Af) ?_);rintro _ ba ⟨⟨⟩,az⟩;revert X V U M G r1 v1 r2 v2;refine eY az ?_;intro bb X V U M G r1 v1 r2 v2;refine C1 Pt (cT (AO rfl (Am (Ah (Ai (Ak (C1 Mv (C1 V7 (C1 Pa (Al ?_))))))))))
   exact Av (j+1) sB ⟨Ab,V,M,U,G,X⟩ Ab
 . obtain rfl:j=cells.length:=by omega
   refine kR ?_;exact ⟨rfl,X⟩
set_option maxHeartbeats 8000000 in
def Kr (v:VdV) (aa:v.st.small) (S S':nP) (a ta oa Y G M:oA) (c tc oc c' O U:Nat) (w:wD) (Z:v.st.sits S w a ta oa) (N:v.st.sits S' w Y G M) :
 Calls prog 15 #[.agg (v.row a c ta tc oa oc).toArray,.agg (v.row Y c' G O M U).toArray] w λe w'=>e = .returned (.bool true)/\Ext w w':=by
 have X:=Ne w;obtain ⟨ok,tr,⟨cells,V,tout⟩,er⟩:=v;have HE:=fZ (λw1 h h'=>Ve ⟨cells,V,tout⟩ aa S S' a ta oa Y G M c tc oc c' O U w1 h h');simp only at *;change Calls prog _ #[.agg #[.bool ok,.int .i64 tr,.slice a cells.length c,.slice ta V.length tc,.slice oa tout.length oc,.int .i64 er],.agg #[.bool ok,.int .i64 tr,.slice Y cells.length c',.slice G V.length O,.slice M tout.length U,.int .i64 er]] w _;refine Ad func15 ntmps15 rfl rfl (cS (eB [_,_,_,_,_,_] ?_));intro b1 w2 h4 x5 _ _;revert X Z N;refine eE x5 ?_;intro X Z N;refine eB [_,_,_,_,_,_] ?_;intro b8 w9 ad ab _ _;revert h4 X Z N;refine eE ab ?_;intro h4 X Z N;refine eK ?_;refine C1 (XM Ac rfl rfl rfl) (kC (HE.out _ Af Af) ?_);rintro _ ae ⟨⟨⟩,ac⟩;have X:=X.ext ac;refine kR ?_;exact ⟨rfl,X⟩
def BkAt.ltX {X:nP} {es:List EX} {L:List AtV} (h:BkAt S X w j es L):∀k,X k\/S k->k<w.heap.size:=by
 obtain ⟨_,_,_,-,-,-,-,N,O⟩:=h;exact λk U=>U.elim (λh=>(N k h).2) (O k)
def XN {N:nP} {G U Y V:Nat} (h:∀k,N k->S k\/U<=k/\k<Y) (Z:G<=U) (h9:G<=V):∀b,(¬S b/\j<b/\b<G) -> ¬N b/\j<b/\b<V:=λb X=>⟨λe=>(h b e).elim X.1 (λg=>by omega),X.2.1,Ab⟩
def Fe {N n:Nat} (h:Rows (λb=> ¬S b/\N<b/\b<n) w cs a) (U:n<=j):Rows (λb=> ¬S b/\N<b/\b<j) w cs a:=nd h λb G=>⟨G.1,G.2.1,by have:=G.2.2;omega⟩
def cB {n N U O:Nat} (h:Rows (λb=>(λb=> ¬S b/\j<b/\b<n) b\/N<=b/\b<U) w cs a) (Y:n<=O) (Z:j<N) (h2:U<=O) (V:∀k,S k->k<N):Rows (λb=> ¬S b/\j<b/\b<O) w cs a:=
 nd h λb X=>X.elim (λg=>⟨g.1,g.2.1,by have:=g.2.2;omega⟩) (λg=>⟨λe=>by have:=V b e;omega,Ab,Ab⟩)
def K1 {es:List EX} {L:List AtV} {s n:Bf} {p:PG} (h:∀a∈L,a.n∈es.map (·.name)):∀a∈(BD es L s n p).2,a.n∈es.map (·.name):=by
 unfold BD;split
 . split
   . exact h
   . rename_i i N;split
     . exact h
     . rename_i e M;split
       . exact h
       . obtain ⟨U,G,O,-⟩:=JM N;rw [M] at G;obtain rfl:=gJ G;exact YN h (by rw [<-O];exact List.mem_map_of_mem (iI M)) s _
 . exact h
def Vf (es:List EX) (G:List SB):∀a∈Fz es [] G,a.n∈es.map (·.name):=by
 have h:∀(G:List SB) (L:List AtV),(∀a∈L,a.n∈es.map (·.name)) -> ∀a∈Fz es L G,a.n∈es.map (·.name):=by
  intro G
  induction G with
  | nil=>exact λL h=>h
  | cons s r M=>exact λL h=>M _ (K1 h)
 exact h G [] AQ
set_option maxHeartbeats 16000000 in
def Vg (l:List EX) (ab:List SB) (hl:∀e∈l,e.name.length<=9223372036854775807/\e.g.wf) (ch:∀s∈ab,s.wf) (S S':nP) (a a':oA) (c c':Nat) (w:wD) (hs:EXs S w l a) (O:SBs S' w ab a') :
 Calls prog 6 #[.slice a l.length c,.slice a' ab.length c'] w λe w'=>e = .returned (.bool true)/\Ext w w':=by
 have X:=Ne w;have hs:=hs.ltA;have O:=O.ltA;have HM:=fZ (λw1 h1 h2=>ZG l ab (λe he=>(hl e he).2) (λs hs=>(ch s hs).ans) (· < w.heap.size) (· < w.heap.size) a a' c c' w1 h1 h2);refine Ad func6 ntmps6 rfl rfl ?_
 focus
  refine kC (Va _) ?_;rintro _ w2 ⟨⟨⟩,x1⟩;revert X hs O;refine eY x1 ?_;intro z3 X hs O;refine kQ (HM.out _ Af Af) ?_;rintro _ w7 ⟨q4,⟨⟩,h5,x6⟩;revert X hs O;refine eY x6 ?_;intro z8 X hs O;refine eK ?_;refine AA rfl (λc9=>?_) (λc9=>?_);refine kR ?_;rotate_left;refine Am (Ai ?_);rotate_left
 . exact ⟨rfl,X⟩
 obtain ⟨c3,i6,b4,cu⟩:=(h5.resolve_left c9).2;have hw:∀e∈l,e.wf/\e.fuel<=400:=λe he=>⟨⟨(hl e he).1,(hl e he).2,by have:=(b4 e he).1;omega⟩,(b4 e he).2⟩
 clear hl b4 h5 HM;rcases Decidable.em (IU l=0) with h0|h0
 case inr=>
  have HN:=fZ (λw1 h=>dU l (λe he=>(hw e he).1) Ab rfl h0 (· < w.heap.size) a c w1 h);refine kC (HN.out _ Af) ?_;rintro _ i7 ⟨⟨⟩,ed⟩;revert X hs O;refine eY ed ?_;intro i8 X hs O;refine kR ?_;all_goals exact ⟨rfl,X⟩
 have HN:=fZ (λw1 h=>Z4 l (λe he=>(hw e he).1) Ab h0 (· < w.heap.size) a c w1 h);refine kQ (HN.out _ Af) ?_;rintro _ ee ⟨ai,cv,b0,⟨⟩,b5,c4,ef⟩;revert X hs O;refine eY ef ?_;intro eg X hs O;refine eK ?_;refine C1 (Fa Ac rfl rfl) (C1 ZO (cT (AO rfl (Am (Ai ?_)))));have i9:=X.size;have eh:∀k,b0 k\/cv k->w.heap.size<=k:=λk hk=>by have:=c4 k hk;omega
 have hp:∀e∈l,0<=e.points/\e.points<=1000:=λe he=>by have:=((N0 h0).1 e he).1.2.1;omega
 have b6:=(N0 h0).2;have b1:=b5.ltX;clear HN c4 z3 z8 eg h0;refine cS (eA [_,_] ?_);intro ae ja cw ei ej jb;revert b5 X hs O;refine eE ei ?_;intro b5 X hs O;refine cT (Aj (cS (C1 Pa (cT ?_))));have b7:=cw.lt;have cx:(l.map (·.points)).length=l.length:=jJ ..;refine As ?_;refine AF (ι:=Nat×oA×Nat) (λy=>[(0,.slice a l.length c),(1,.slice a' ab.length c'),(5,.pointer (some ⟨ai,0,none⟩)),(7,.pointer (some ⟨ae,0,none⟩)),(8,.int .i64 y.1)])
  (λy w'=>y.1<=l.length/\Blk w' ae [.slice y.2.1 ((l.map (·.points)).take y.1).length y.2.2,.slice none 0 0]/\OwnQ Cv w' (λb=>ae<b) (ae+1) 3 (.slice y.2.1 ((l.map (·.points)).take y.1).length y.2.2) ((l.map (·.points)).take y.1)/\BkAt cv b0 w' ai l []/\EXs (· < w.heap.size) w' l a/\SBs (· < w.heap.size) w' ab a'/\Ext w w'/\ae<w'.heap.size) (λy=>l.length-y.1) (0,none,0) sB ⟨gI _,cw,ni,b5,hs,O,X,b7⟩ ?_
 clear cw b5 hs O X b7;rintro ⟨j,ra,rc⟩ w1 ⟨hj,Z,ag,af,hs,O,X,b7⟩;simp only at hj Z ag;refine m7 (m:=[(0,.slice a l.length c),(1,.slice a' ab.length c'),(5,.pointer (some ⟨ai,0,none⟩)),(7,.pointer (some ⟨ae,0,none⟩)),(8,.int .i64 j)]) ?_ sB;by_cases ba:j<l.length
 . have bb:∀g,(iA ra ((l.map (·.points)).take j).length rc).ownBlock=some g->ae+1<=g/\g<w1.heap.size:=λg h=>⟨nB ag h,ag.lt h⟩
   have b8:(l.map (·.points)).take j++[l[j].points]=(l.map (·.points)).take (j+1):=by
    rw [gC (by rw [cx];exact ba),lj]
   have jc:((l.map (·.points)).take j).length<=4:=by rw [iE,cx];omega
   obtain ⟨kb,ko,rfl,ek,hk⟩:=mM hs Ab;obtain ⟨va,vc,pa,pc,ma,mc,rx,-⟩:=hk j l[j] (fY ba);clear hk hw ch cu hp b6;generalize l[j]=x at *;generalize (l.map (·.points)).take j=ys at *;unfold mZ at *;refine eK ?_;refine Ap (λwz=>Fr ((iA ra ys.length rc).ownBlock=some ·) w1 wz) 9 (.pure 0 (.pure 1 (.pure 2 (.pure 3 (.pure 4 (.pure 5 (.pure 6 (.fork 7 (.fork 8 .tail .none) .none)))))))) mixed AR (Ae (Aa (Aa (Ae (Aa Ag))))) ?_;intro el c5 _;have ap:(λwz=>Fr ((iA ra ys.length rc).ownBlock=some ·) w1 wz) el:=mt c5;simp only at ap;have cy:=af;have am:=O;have az:=hs;have cl:=rx;have aw:=Z;have ci:=ag;revert af O X hs rx Z ag;refine eY c5 ?_;intro jd af O X hs rx Z ag;refine ⟨ap,?_⟩;refine Tq rfl Pg (Tq rfl (Ar Ac rfl rfl rfl (λwz hz=>mC (mu aw hz (λe=>by have:=bb _ e;(try dsimp only at this);omega)) rfl)) ?_);refine eT ?_;refine Tq rfl (Ar Ac rfl rfl rfl (λwz hz=>Row.at (mN cl hz (λe=>by have:=bb _ e;(try dsimp only at this);omega)) rfl)) ?_;refine Ax rfl (xS [_]) rfl ?_ aFh Au;rintro _ je ⟨jf,rfl,cj,jg⟩;have bo:=cj.blk;have c6:=cj.ext;have f3:=cj.pos;have f4:=cj.size;revert ap af O X hs rx Z ag;refine eE c6 ?_;intro ap af O X hs rx Z ag;refine ⟨ap,?_⟩;refine Ax rfl (E4 (R:=λb=>ae<b) (sh:=Cv) (z:=x.points) Ac Ca rfl rfl rfl rfl AR rfl rfl rfl Af aFh (mJ Af) rfl Ab Ab) rfl ?_ aFh Au
   rintro _ f5 ⟨f6,ec,rfl,cm,f7,f8,aj⟩;have f9:=aj.size;have bo:=mu bo aj (λe=>by have:=bb _ e;(try dsimp only at this);omega);have ap:=mB ap aj (λk hk=>gA hk);have af:=nj af aj (λk hk hT=>by have:=bb _ hT;have:=b1 _ hk;omega);have O:=SBs.fr O aj (λb Z hT=>by have:=bb _ hT;(try dsimp only at Z);omega);have X:=mI X aj (λk hk=>by have:=bb _ hk;omega);have hs:=EXs.fr hs aj (λb Z hT=>by have:=bb _ hT;(try dsimp only at Z);omega);have rx:=mN rx aj (λe=>by have:=bb _ e;(try dsimp only at this);omega);have Z:=mu Z aj (λe=>by have:=bb _ e;(try dsimp only at this);omega);clear ag aj;refine ⟨ap,?_⟩;clear cy am az cl aw ci ap;refine Aq rfl (C1 Pg (eV [_] [_,_] Z ?_));intro ga gb bp gc;clear Z;have cm:=nx cm bp (λk hk=>⟨λh=>by (try dsimp only at hk h);omega,λe=>by have:=nB Af e;(try dsimp only at hk);omega⟩);have bo:=bo.fr bp Ab;have af:=nj af bp (λk hk e=>by have:=b1 _ hk;(try dsimp only at e);omega);revert O X hs rx;refine eF bp ?_;intro O X hs rx;refine Al (Ah (Ai (Ak (C1 Mv (C1 V7 (C1 Pa (Al ?_)))))));all_goals exact Av (j+1,some ⟨_,0,none⟩,_) sB ⟨ba,by dsimp only;rw [<-b8];assumption,by dsimp only;rw [<-b8];assumption,Af,Af,Af,Af,Ab⟩ (by dsimp only;omega)
 . obtain rfl:j=l.length:=by omega
   rw [kx (by rw [cx];exact gP _)] at Z ag;refine Aj (cS (C1 Mv (C1 Mv (C1 Pz (C1 V3 (cT (Dd (BF (Ay (Ay (AS ?_)))))))))));refine Ai (Aj (cS (C1 Pa (cT ?_))));have jh:ae=ee.heap.size:=ej;have en:GV (l.map (·.name)) (Fz l [] (ab.take 0))=[]:=rfl;refine As ?_;refine AF (ι:=Nat×(nP)×oA×Nat) (λy=>[(0,.slice a l.length c),(1,.slice a' ab.length c'),(5,.pointer (some ⟨ai,0,none⟩)),(7,.pointer (some ⟨ae,0,none⟩)),(9,.int .i64 y.1)])
    (λy w'=>y.1<=ab.length/\BkAt y.2.1 b0 w' ai l (Fz l [] (ab.take y.1))/\(∀k,y.2.1 k->w.heap.size<=k/\k≠ae)/\Rows (λb=> ¬y.2.1 b/\ae<b/\b<w'.heap.size) w' (AX (l.map (·.points))) ra/\Ats (λb=> ¬y.2.1 b/\ae<b/\b<w'.heap.size) w' (GV (l.map (·.name)) (Fz l [] (ab.take y.1))) y.2.2.1/\Blk w' ae [.slice ra (l.map (·.points)).length rc,.slice y.2.2.1 (GV (l.map (·.name)) (Fz l [] (ab.take y.1))).length y.2.2.2]/\EXs (· < w.heap.size) w' l a/\SBs (· < w.heap.size) w' ab a'/\Ext w w') (λy=>ab.length-y.1) (0,cv,none,0) sB
    ⟨gI _,af,λk hk=>⟨eh k (gB hk),by have:=b1 k (gB hk);omega⟩,Wk (OwnQ.els ag (λb h1 h2=>⟨λh=>by have:=b1 b (gB h);omega,Ab,h2⟩)),gA rfl,Z,hs,O,X⟩ ?_
   clear Z ag af hs O X b7 en;rintro ⟨i,M,la,lc⟩ w1 ⟨hi,af,hM,Y,V,Z,hs,O,X⟩;simp only at hi af hM Y V Z;refine m7 (m:=[(0,.slice a l.length c),(1,.slice a' ab.length c'),(5,.pointer (some ⟨ai,0,none⟩)),(7,.pointer (some ⟨ae,0,none⟩)),(9,.int .i64 i)]) ?_ sB;have ji:=X.size;have b7:=Z.lt;have aq:=af.ltX;by_cases ba:i<ab.length
   . have eo:=N1 l (ab.take i) [];have b9:Fz l [] (ab.take (i+1))=(BD l (Fz l [] (ab.take i)) ab[i].stu ab[i].name ab[i].ans).2:=by rw [gC ba,Sy]
     have bd:=ch _ (gK ba);have ck:=cu _ (gK ba);have bq:=Vf l (ab.take i);obtain ⟨kb,ko,rfl,ek,hk⟩:=mM O Ab;obtain ⟨va,vc,pa,pc,ma,mc,rx,sx⟩:=hk i ab[i] (fY ba);rw [iM,iE,iR] at eo;clear hk ch cu;generalize Fz l [] (ab.take i)=L at *;generalize ab[i]=x at *;have q1:=sx.g;have q2:=sx.p;have c7:=sx.room;have HF:=fZ (λw1 h=>XB l Ab x.name (· < w.heap.size) a c w1 h);have HI:=fZ (λw1=>IM x.stu w1 bd.stu);have cz:=fZ (λw1 h1 h2 h3=>XC M b0 ai l c3 hw L Ab x.stu x.name bd.stu x.ans bd.ans ck (· < w.heap.size) va vc pa pc ma mc w1 h1 h2 h3 c7);clear sx;obtain ⟨ve,a0⟩:∃r,r=BD l L x.stu x.name x.ans:=⟨_,rfl⟩;have bc:=K1 (s:=x.stu) (n:=x.name) (p:=x.ans) bq;have c8:=KZ l L x.stu x.name x.ans;rw [<-a0] at cz b9 bc c8;obtain ⟨⟨⟨b2,da,⟨db,dc,dd⟩,de⟩,jj⟩,L2⟩:=ve;simp only at b9 bc c8;unfold SB.cells at *;refine eK ?_;refine xA [_,_,_,_,_,_,_,_] ?_;intro df jk ep;refine eI [_,_,_,_,_,_,_,_] ep ?_;intro jl aa eq jm jn;revert Y hs X O af V Z rx q1 q2;refine eE eq ?_;intro Y hs X O af V Z rx q1 q2;refine kQ (cz.out _ Af Af Af) ?_;rintro _ gd ⟨jo,gf,et,eu,ew,ey,⟨⟩,G,dg,an,gg,ah,U,ak⟩;have gh:=ak.size;have aa:=mu aa ak (λe=>by have:=aq _ (gB e);omega);have Y:=mT Y ak (λb Z=>Z.1);have hs:=EXs.fr hs ak (λb Z hT=>by have:=(hM _ hT).1;(try dsimp only at Z);omega);have X:=mI X ak (λk hk=>(hM k hk).1);have O:=SBs.fr O ak (λb Z hT=>by have:=(hM _ hT).1;(try dsimp only at Z);omega);clear af;have V:=Ats.fr V ak (λb Z=>Z.1);have Z:=mu Z ak (λe=>(hM _ e).2 rfl);clear rx;have q1:=PG.sits.fr q1 ak (λb Z hT=>by have:=(hM _ hT).1;(try dsimp only at Z);omega);have q2:=PDsC.fr q2 ak (λb Z hT=>by have:=(hM _ hT).1;(try dsimp only at Z);omega);refine eK ?_;refine xA [_,_,_,_,_,_] ?_;intro gi gj a6;refine De [_,_,_,_,_,_] Ac rfl rfl rfl rfl rfl rfl a6 rfl ?_;intro gk a6;have N:=a6.blk;dsimp only at N
     have dh:=a6.ext;have gl:=a6.pos;have gm:=a6.size;revert G U aa Y hs X O V Z q1 q2;refine eE dh ?_;intro G U aa Y hs X O V Z q1 q2;refine kC (HF.out _ Af) ?_;rintro _ ca ⟨⟨⟩,di⟩;revert N G U aa Y hs X O V Z q1 q2;refine eY di ?_;intro gn N G U aa Y hs X O V Z q1 q2;refine C1 Pa (cT ?_);simp only at G dg U;have Y:=nd Y (XN ah Ab Ab:∀b,_ -> ¬an b/\ae<b/\b<ca.heap.size);have V:=nd V (XN ah Ab Ab:∀b,_ -> ¬an b/\ae<b/\b<ca.heap.size);clear cz HF;refine ED (ι:=oA×Nat) (λ_=>[(0,.slice a l.length c),(1,.slice (some ⟨kb,ko,none⟩) ab.length c'),(5,.pointer (some ⟨ai,0,none⟩)),(7,.pointer (some ⟨ae,0,none⟩)),(9,.int .i64 i),(10,.pointer (some ⟨df,0,none⟩))])
      (λz w'=>BkAt an b0 w' ai l L2/\Rows (λb=> ¬an b/\ae<b/\b<w'.heap.size) w' (AX (l.map (·.points))) ra/\Ats (λb=> ¬an b/\ae<b/\b<w'.heap.size) w' (GV (l.map (·.name)) L2) z.1/\Blk w' ae [.slice ra (l.map (·.points)).length rc,.slice z.1 (GV (l.map (·.name)) L2).length z.2]/\EXs (· < w.heap.size) w' l a/\SBs (· < w.heap.size) w' ab (some ⟨kb,ko,none⟩)/\Blk w' df (x.cells va vc pa pc ma mc)/\Ext w w'/\ca.heap.size<=w'.heap.size) ?_ ?_
     . cases hq:Cl x.stu
       . have hv:BD l L x.stu x.name x.ans=((m5,3),L):=by unfold BD;rw [AC (by simp [hq])]
         rw [hv] at a0;cases a0;rw [hq] at HI;clear hw hv hq bd ck hp;refine kC (HI.out _) ?_;rintro _ jp ⟨⟨⟩,ez⟩;revert aa hs X O Z q1 q2 Y V G N U;refine eY ez ?_;intro jq aa hs X O Z q1 q2 Y V G N U;refine C1 Pt (C1 Pa (cT (Bq rfl (cS (C1 Mv (C1 V2 (C1 Mv (AP rfl rfl rfl (Cb (not_not_intro rfl)) (AH [_,_,_,_,_,_] Ac rfl rfl rfl N rfl rfl rfl (AP rfl rfl rfl (Cb (not_not_intro rfl)) (C1 (xB [_,_,_,_,_,_]) ?_)))))))))));refine AP rfl rfl rfl (Cb (not_not_intro rfl)) (cC rfl (Kr m5 DI _ (λ_=>True) _ _ _ none none none _ _ _ 0 0 0 _ G Ec) ?_);rintro _ jr ⟨⟨⟩,e0⟩;revert aa hs X O Z q1 q2 Y V G N U;refine eY e0 ?_;intro js aa hs X O Z q1 q2 Y V G N U;refine AP rfl rfl rfl (Cb (not_not_intro rfl)) (C1 Pt (C1 (Qn (not_not_intro rfl)) (cT (AO rfl (Am (Ah ?_))))));exact BC (la,lc) sB ⟨Af,Fe Af Ab,Fe Af Ab,Af,Af,Af,Af,Af,Ab⟩
       rw [hq] at HI;cases he:Rk l x.name with
       | none=>
        have hv:BD l L x.stu x.name x.ans=((m5,21),L):=by unfold BD;rw [AT hq,he]
        rw [hv] at a0;cases a0;rw [show Fw l x.name = -1 from by unfold Fw;rw [he]];clear hw hv hq bd ck hp he;refine kC (HI.out _) ?_;rintro _ jt ⟨⟨⟩,e1⟩;revert aa hs X O Z q1 q2 Y V G N U;refine eY e1 ?_;intro ju aa hs X O Z q1 q2 Y V G N U;refine C1 Pt (C1 Pa (cT (AO rfl (cS (C1 Mv (C1 V3 (C1 Pa (cT (Vj (cS (C1 Mv ?_)))))))))));refine C1 V2 (C1 Mv (AP rfl rfl rfl (Cb (not_not_intro rfl)) (AH [_,_,_,_,_,_] Ac rfl rfl rfl N rfl rfl rfl (AP rfl rfl rfl (Cb (not_not_intro rfl)) (C1 (xB [_,_,_,_,_,_]) (AP rfl rfl rfl (Cb (not_not_intro rfl)) (cC rfl (Kr m5 DI _ (λ_=>True) _ _ _ none none none _ _ _ 0 0 0 _ G Ec) ?_)))))));rintro _ jv ⟨⟨⟩,e2⟩;revert aa hs X O Z q1 q2 Y V G N U;refine eY e2 ?_;intro jw aa hs X O Z q1 q2 Y V G N U;refine AP rfl rfl rfl (Cb (not_not_intro rfl)) (C1 Pt (C1 (Qn (not_not_intro rfl)) (cT (AO rfl (Am (Ah ?_))))));exact BC (la,lc) sB ⟨Af,Fe Af Ab,Fe Af Ab,Af,Af,Af,Af,Af,Ab⟩
       | some ix=>
        obtain ⟨e,b3,e3,c0⟩:=JM he;have hv:BD l L x.stu x.name x.ans=if (BL e x.ans).2≠0 then ((m5,(BL e x.ans).2),L) else (((BL e x.ans).1,0),Hi L x.stu x.name (BL e x.ans).1.ok):=by
         unfold BD;rw [AT hq,he];simp only [b3]
        rw [hv] at a0;rw [c0];obtain ⟨dk,e4⟩:=hw e (iI b3);obtain ⟨jx,jy,rfl,go,dl⟩:=mM hs (by have:=(List.getElem?_eq_some_iff.1 b3).1;omega);obtain ⟨dm,e5,c1,e6,dn,e7,ex,sx⟩:=dl ix e b3;have jz:=(List.getElem?_eq_some_iff.1 b3).1;have HG:=fZ (λ(S1 S2 S3:nP) w1 (g1:e.g.sits S1 w1 dm c1 dn) (e8:PDsC S1 w1 e.g.procs c1) (g2:x.ans.sits S2 w1 va pa ma) (g3:PDsC S3 w1 x.ans.procs pa)=>Tt e dk Ab x.ans bd.ans Ab (λ_=>True) dm e5 c1 e6 dn e7 va vc pa pc ma mc w1 ⟨g1.wide λ_ _=>trivial,e8.wide λ_ _=>trivial,sx.room⟩ (g2.wide λ_ _=>trivial) (g3.wide λ_ _=>trivial) c7);have q3:=sx.g;have q4:=sx.p;have c2:(l.map (·.name))[ix]? = some x.name:=by rw [iD,b3];exact congrArg some e3
        clear dl hv sx ck e4 dk;generalize dp:BL e x.ans=gv at *;obtain ⟨⟨j0,j1,⟨j2,j3,j4⟩,j5⟩,er⟩:=gv;simp only at a0;unfold mZ at *;rcases Decidable.em (er=0) with rfl|e9
        case inr=>
         rw [AT e9] at a0;cases a0;clear hw hq bd hp c0 he c2 dp bq b6
         focus
          refine kC (HI.out _) ?_;rintro _ dq ⟨⟨⟩,fa⟩;revert aa X O Z q1 q2 Y V hs ex q3 q4 G N U;refine eY fa ?_;intro j6 aa X O Z q1 q2 Y V hs ex q3 q4 G N U;refine eK ?_;refine Ap (λwz=>Ext dq wz) 12 (.pure 0 (.pure 1 (.pure 2 (.pure 3 (.pure 4 (.pure 5 (.fork 6 (.pure 7 (.pure 8 (.pure 9 (.fork 10 (.fork 11 .tail .none) .none)))) (.fork 10 (.fork 6 (.pure 7 (.pure 8 (.pure 9 (.fork 11 .tail .none)))) .none) .none)))))))) mixed AR (Aa (Ae (Aa (Ae (Aa (Aa (Ae (Aa Ag)))))))) ?_;intro fb dr _;have ac:(λwz=>Ext dq wz) fb:=dr;simp only at ac;have ao:=aa;have am:=O;have aw:=Z;have be:=q1;have bf:=q2;have a1:=Y;have a2:=V;have az:=hs;have a3:=ex;have bg:=q3;have bh:=q4;have ar:=G;have au:=N;have av:=U;revert aa X O Z q1 q2 Y V hs ex q3 q4 G N U;refine eY dr ?_;intro j7 aa X O Z q1 q2 Y V hs ex q3 q4 G N U;refine ⟨ac,?_⟩;refine eT ?_;refine Tq rfl (Bt Ac rfl rfl rfl (λwz hz=>(mw a3 hz)) rfl) (Tq rfl Pf (Tq rfl (xL [_,_,_,_,_,_] (λwz hz=>(my ao hz))) ?_));refine Ax rfl (AM AR rfl (HG.out _ _ _ _ Af Af Af Af) (λ_ _ h=>h.ret)) rfl ?_ aFh ?kri8;rintro _ gp ⟨j8,gq,fc,fd,fe,ff,⟨⟩,ax,gr,ds⟩;revert ac aa X O Z q1 q2 Y V hs ex q3 q4 G N U;refine eY ds ?_;intro gs ac aa X O Z q1 q2 Y V hs ex q3 q4 G N U;refine ⟨ac,?_⟩;refine eT ?_;refine Ax rfl (A3 Ca rfl) rfl ?_ aFh Au;rintro _ gt ⟨gu,rfl,br⟩;have cn:=br.blk;dsimp only at cn;have dt:=br.ext;have gw:=br.pos;have gx:=br.size;revert ax ac aa X O Z q1 q2 Y V hs ex q3 q4 G N U;refine eE dt ?_;intro ax ac aa X O Z q1 q2 Y V hs ex q3 q4 G N U;refine ⟨ac,?_⟩;refine Ch [_,_,_,_,_,_] [_,_,_,_,_,_] rfl Ac rfl rfl rfl rfl rfl rfl cn rfl rfl ?_ Au;intro gy cb;have du:=cb.blk;have bi:=cb.fr;have gz:=cb.size;revert ax ac aa X O Z q1 q2;refine eF bi ?_;intro ax ac aa X O Z q1 q2;have Y:=mT Y bi (λb Z e=>by have:=Z.2.1;(try dsimp only at e);omega);have V:=mT V bi (λb Z e=>by have:=Z.2.1;(try dsimp only at e);omega);revert hs ex q3 q4 G N;refine eF bi ?_;intro hs ex q3 q4 G N;have U:=nj U bi (λk hk e=>hk.elim (λg=>by have:=aq k (gA g);(try dsimp only at e);omega) (λg=>(ah k g).elim (λg2=>by have:=aq k (gB g2);(try dsimp only at e);omega) (λg2=>by (try dsimp only at e);omega)))
          refine ⟨ac,?_⟩;clear ao am aw be bf a1 a2 az a3 bg bh ar au av ac;refine Aq rfl ?_;refine eK ?_;refine C1 (xB [_,_,_,_,_,_]) (eS [_,_,_,_,_,_] du ?_);intro g0 cc bj g4;revert ax aa X O Z q1 q2;refine eF bj ?_;intro ax aa X O Z q1 q2;have Y:=mT Y bj (λb Z e=>by have:=Z.2.1;(try dsimp only at e);omega);have V:=mT V bj (λb Z e=>by have:=Z.2.1;(try dsimp only at e);omega);revert hs ex q3 q4 G N;refine eF bj ?_;intro hs ex q3 q4 G N;have U:=nj U bj (λk hk e=>hk.elim (λg=>by have:=aq k (gA g);(try dsimp only at e);omega) (λg=>(ah k g).elim (λg2=>by have:=aq k (gB g2);(try dsimp only at e);omega) (λg2=>by (try dsimp only at e);omega)));refine cN (C1 Mv (C1 Mv (C1 V2 (C1 Mv (AP rfl rfl rfl (Cb (not_not_intro rfl)) (AH [_,_,_,_,_,_] Ac rfl rfl rfl N rfl rfl rfl (AP rfl rfl rfl (Cb (not_not_intro rfl)) (AH [_,_,_,_,_,_] Ac rfl rfl rfl cc rfl rfl rfl (AP rfl rfl rfl (Cb (not_not_intro rfl)) (cC rfl (Kr m5 DI _ (λ_=>True) _ _ _ none none none _ _ _ 0 0 0 _ G Ec) ?_))))))))));rintro _ g5 ⟨⟨⟩,co⟩;have g6:=co.size;revert cc ax aa X O Z q1 q2 Y V hs ex q3 q4 G N U;refine eE co ?_;intro cc ax aa X O Z q1 q2 Y V hs ex q3 q4 G N U;refine AP rfl rfl rfl (Cb (not_not_intro rfl)) (C1 Pt (C1 (Qn (not_not_intro rfl)) (cT (AO rfl (Am (Ah ?_))))));rotate_left;refine Ax rfl (A3 Ca rfl) rfl ?_ aFh Au;rintro _ g7 ⟨g8,rfl,bs⟩;have bt:=bs.blk;dsimp only at bt;have dv:=bs.ext;have g9:=bs.pos;have ha:=bs.size;revert ac aa X O Z q1 q2 Y V hs ex q3 q4 G N U;refine eE dv ?_;intro ac aa X O Z q1 q2 Y V hs ex q3 q4 G N U;refine ⟨ac,?_⟩;refine tC rfl rfl (HG.out _ _ _ _ Af Af Af Af) ?_;rintro _ hc ⟨hd,hf,fg,fh,fj,fk,⟨⟩,a7,hg,dw⟩;revert bt ac aa X O Z q1 q2 Y V hs ex q3 q4 G N U;refine eY dw ?_;intro hh bt ac aa X O Z q1 q2 Y V hs ex q3 q4 G N U;refine ⟨ac,?_⟩;refine eT ?_;refine Ch [_,_,_,_,_,_] [_,_,_,_,_,_] rfl Ac rfl rfl rfl rfl rfl rfl bt rfl rfl ?_ Au;intro hm cd;have dx:=cd.blk;have bk:=cd.fr;have hn:=cd.size;revert a7 ac aa X O Z q1 q2;refine eF bk ?_;intro a7 ac aa X O Z q1 q2;have Y:=mT Y bk (λb Z e=>by have:=Z.2.1;(try dsimp only at e);omega)
          have V:=mT V bk (λb Z e=>by have:=Z.2.1;(try dsimp only at e);omega);revert hs ex q3 q4 G N;refine eF bk ?_;intro hs ex q3 q4 G N;have U:=nj U bk (λk hk e=>hk.elim (λg=>by have:=aq k (gA g);(try dsimp only at e);omega) (λg=>(ah k g).elim (λg2=>by have:=aq k (gB g2);(try dsimp only at e);omega) (λg2=>by (try dsimp only at e);omega)));refine ⟨ac,?_⟩;clear ao am aw be bf a1 a2 az a3 bg bh ar au av ac;refine Aq rfl ?_;refine eK ?_;refine C1 (xB [_,_,_,_,_,_]) (eS [_,_,_,_,_,_] dx ?_);intro ho ce bl hr;revert a7 aa X O Z q1 q2;refine eF bl ?_;intro a7 aa X O Z q1 q2;have Y:=mT Y bl (λb Z e=>by have:=Z.2.1;(try dsimp only at e);omega);have V:=mT V bl (λb Z e=>by have:=Z.2.1;(try dsimp only at e);omega);revert hs ex q3 q4 G N;refine eF bl ?_;intro hs ex q3 q4 G N;have U:=nj U bl (λk hk e=>hk.elim (λg=>by have:=aq k (gA g);(try dsimp only at e);omega) (λg=>(ah k g).elim (λg2=>by have:=aq k (gB g2);(try dsimp only at e);omega) (λg2=>by (try dsimp only at e);omega)));refine cN (C1 Mv (C1 Mv (C1 V2 (C1 Mv (AP rfl rfl rfl (Cb (not_not_intro rfl)) (AH [_,_,_,_,_,_] Ac rfl rfl rfl N rfl rfl rfl (AP rfl rfl rfl (Cb (not_not_intro rfl)) (AH [_,_,_,_,_,_] Ac rfl rfl rfl ce rfl rfl rfl (AP rfl rfl rfl (Cb (not_not_intro rfl)) (cC rfl (Kr m5 DI _ (λ_=>True) _ _ _ none none none _ _ _ 0 0 0 _ G Ec) ?_))))))))))
          rintro _ ht ⟨⟨⟩,dy⟩;revert ce a7 aa X O Z q1 q2 Y V hs ex q3 q4 G N U;refine eY dy ?_;intro hu ce a7 aa X O Z q1 q2 Y V hs ex q3 q4 G N U;refine AP rfl rfl rfl (Cb (not_not_intro rfl)) (C1 Pt (C1 (Qn (not_not_intro rfl)) (cT (AO rfl (Am (Ah ?_))))));rotate_left
         all_goals exact BC (la,lc) sC ⟨Af,Fe Af Ab,Fe Af Ab,Af,Af,Af,Af,Af,Ab⟩
        rw [AC AQ] at a0;cases a0;have cp:=YM b6 bq c2 x.stu b2;have dz:(GV (l.map (·.name)) L).length<=1000000:=by unfold GV;rw [jJ];omega
        have HR:=fZ (λ(b:Bool) (fl:b=b2) (S:nP) (W:wD) (h:Ats S W (GV (l.map (·.name)) L) la)=>Eq.subst (motive:=λR'=>Calls prog 25 #[.agg #[.slice ra (l.map (·.points)).length rc,.slice la (GV (l.map (·.name)) L).length lc],str x.stu,.int .i64 ix,.bool b] W (RSub S ra (l.map (·.points)).length rc R' W)) (show Wm (GV (l.map (·.name)) L) x.stu ix b=GV (l.map (·.name)) (Hi L x.stu x.name b2) by rw [fl];exact cp) (Vb (GV (l.map (·.name)) L) dz x.stu ix b _ ra (l.map (·.points)).length rc la lc W h));clear hw hq bd hp c0 he c2 dp bq b6 bc cp dz;generalize Hi L x.stu x.name b2=L' at *
        focus
         refine kC (HI.out _) ?_;rintro _ d0 ⟨⟨⟩,fm⟩;revert N G aa X O Z q1 q2 Y V hs ex q3 q4 U;refine eY fm ?_;intro j9 N G aa X O Z q1 q2 Y V hs ex q3 q4 U;refine eK ?_;refine Ap (λwz=>Ext d0 wz) 12 (.pure 0 (.pure 1 (.pure 2 (.pure 3 (.pure 4 (.pure 5 (.fork 6 (.pure 7 (.pure 8 (.pure 9 (.fork 10 (.fork 11 .tail .none) .none)))) (.fork 10 (.fork 6 (.pure 7 (.pure 8 (.pure 9 (.fork 11 .tail .none)))) .none) .none)))))))) mixed AR (Aa (Ae (Aa (Ae (Aa (Aa (Ae (Aa Ag)))))))) ?_;intro fo d1 _;have ad:(λwz=>Ext d0 wz) fo:=d1;simp only at ad;have au:=N;have ar:=G;have ao:=aa;have am:=O;have aw:=Z;have be:=q1;have bf:=q2;have a1:=Y;have a2:=V;have az:=hs;have a3:=ex;have bg:=q3;have bh:=q4;have av:=U;revert N G aa X O Z q1 q2 Y V hs ex q3 q4 U;refine eY d1 ?_;intro ka N G aa X O Z q1 q2 Y V hs ex q3 q4 U;refine ⟨ad,?_⟩;refine eT ?_;refine Tq rfl (Bt Ac rfl rfl rfl (λwz hz=>(mw a3 hz)) rfl) (Tq rfl Pf (Tq rfl (xL [_,_,_,_,_,_] (λwz hz=>(my ao hz))) ?_));refine Ax rfl (AM AR rfl (HG.out _ _ _ _ Af Af Af Af) (λ_ _ h=>h.ret)) rfl ?_ aFh ?krj8;rintro _ hy ⟨kc,h6,fp,fq,fs,ft,⟨⟩,al,h7,d2⟩;revert ad N G aa X O Z q1 q2 Y V hs ex q3 q4 U;refine eY d2 ?_;intro h8 ad N G aa X O Z q1 q2 Y V hs ex q3 q4 U;refine ⟨ad,?_⟩;refine eT ?_;refine Ax rfl (A3 Ca rfl) rfl ?_ aFh Au;rintro _ h9 ⟨ia,rfl,bu⟩;have cq:=bu.blk;dsimp only at cq;have d3:=bu.ext;have ib:=bu.pos;have ic:=bu.size;revert al ad N G aa X O Z q1 q2 Y V hs ex q3 q4 U;refine eE d3 ?_;intro al ad N G aa X O Z q1 q2 Y V hs ex q3 q4 U;refine ⟨ad,?_⟩;refine Ch [_,_,_,_,_,_] [_,_,_,_,_,_] rfl Ac rfl rfl rfl rfl rfl rfl cq rfl rfl ?_ Au;intro id cf;have a4:=cf.blk;have bm:=cf.fr;have ie:=cf.size;revert al ad N G aa X O Z q1 q2;refine eF bm ?_;intro al ad N G aa X O Z q1 q2;have Y:=mT Y bm (λb Z e=>by have:=Z.2.1;(try dsimp only at e);omega);have V:=mT V bm (λb Z e=>by have:=Z.2.1;(try dsimp only at e);omega);revert hs ex q3 q4;refine eF bm ?_;intro hs ex q3 q4;have U:=nj U bm (λk hk e=>hk.elim (λg=>by have:=aq k (gA g);(try dsimp only at e);omega) (λg=>(ah k g).elim (λg2=>by have:=aq k (gB g2);(try dsimp only at e);omega) (λg2=>by (try dsimp only at e);omega)))
         refine ⟨ad,?_⟩;clear au ar ao am aw be bf a1 a2 az a3 bg bh av ad;refine Aq rfl ?_;refine eK ?_;refine AH [_,_] Ac rfl rfl rfl Z rfl rfl rfl ?_;refine kQ (HR.out _ rfl _ _ Af) ?_;rintro _ ig ⟨fu,fv,⟨⟩,bv,d4⟩;revert a4 al N G aa X O Z q1 q2 Y V hs ex q3 q4 U;refine eY d4 ?_;intro ih a4 al N G aa X O Z q1 q2 Y V hs ex q3 q4 U;refine eS [_,_] Z ?_;intro ii cr a8 ij;clear Z;have bv:=Ats.fr bv a8 (λb Z e=>Z.elim (λg=>by have:=g.2.1;(try dsimp only at e);omega) (λg=>by (try dsimp only at e);omega));revert a4 al N G aa X O q1 q2;refine eF a8 ?_;intro a4 al N G aa X O q1 q2;have Y:=mT Y a8 (λb Z e=>by have:=Z.2.1;(try dsimp only at e);omega);have V:=mT V a8 (λb Z e=>by have:=Z.2.1;(try dsimp only at e);omega);revert hs ex q3 q4;refine eF a8 ?_;intro hs ex q3 q4;have U:=nj U a8 (λk hk e=>hk.elim (λg=>by have:=b1 k (gA g);(try dsimp only at e);omega) (λg=>(ah k g).elim (λg2=>(hM k g2).2 e) (λg2=>by (try dsimp only at e);omega)));refine cN (C1 Mv (C1 Mv (C1 V2 (C1 Mv (AP rfl rfl rfl (Cb (not_not_intro rfl)) (AH [_,_,_,_,_,_] Ac rfl rfl rfl N rfl rfl rfl (AP rfl rfl rfl (Cb (not_not_intro rfl)) (AH [_,_,_,_,_,_] Ac rfl rfl rfl a4 rfl rfl rfl (AP rfl rfl rfl (Cb (not_not_intro rfl)) (cC rfl (Kr ⟨b2,da,⟨db,dc,dd⟩,de⟩ Af _ _ _ _ _ _ _ _ _ _ _ _ _ _ _ G Af) ?_))))))))))
         rintro _ ik ⟨⟨⟩,d5⟩;revert cr bv a4 al N G aa X O q1 q2 Y V hs ex q3 q4 U;refine eY d5 ?_;intro il cr bv a4 al N G aa X O q1 q2 Y V hs ex q3 q4 U;refine AP rfl rfl rfl (Cb (not_not_intro rfl)) (C1 Pt (C1 (Qn (not_not_intro rfl)) (cT (AO rfl (Am (Ah ?_))))));rotate_left;refine Ax rfl (A3 Ca rfl) rfl ?_ aFh Au;rintro _ im ⟨io,rfl,bw⟩;have bx:=bw.blk;dsimp only at bx;have d6:=bw.ext;have ip:=bw.pos;have iq:=bw.size;revert ad N G aa X O Z q1 q2 Y V hs ex q3 q4 U;refine eE d6 ?_;intro ad N G aa X O Z q1 q2 Y V hs ex q3 q4 U;refine ⟨ad,?_⟩;refine tC rfl rfl (HG.out _ _ _ _ Af Af Af Af) ?_;rintro _ ir ⟨it,iu,fw,fx,fy,fz,⟨⟩,ay,iv,d7⟩;revert bx ad N G aa X O Z q1 q2 Y V hs ex q3 q4 U;refine eY d7 ?_;intro iw bx ad N G aa X O Z q1 q2 Y V hs ex q3 q4 U;refine ⟨ad,?_⟩;refine eT ?_;refine Ch [_,_,_,_,_,_] [_,_,_,_,_,_] rfl Ac rfl rfl rfl rfl rfl rfl bx rfl rfl ?_ Au;intro iy cg;have a5:=cg.blk;have bn:=cg.fr;have iz:=cg.size;revert ay ad N G aa X O Z q1 q2;refine eF bn ?_;intro ay ad N G aa X O Z q1 q2;have Y:=mT Y bn (λb Z e=>by have:=Z.2.1;(try dsimp only at e);omega);have V:=mT V bn (λb Z e=>by have:=Z.2.1;(try dsimp only at e);omega);revert hs ex q3 q4;refine eF bn ?_;intro hs ex q3 q4;have U:=nj U bn (λk hk e=>hk.elim (λg=>by have:=aq k (gA g);(try dsimp only at e);omega) (λg=>(ah k g).elim (λg2=>by have:=aq k (gB g2);(try dsimp only at e);omega) (λg2=>by (try dsimp only at e);omega)));refine ⟨ad,?_⟩;clear au ar ao am aw be bf a1 a2 az a3 bg bh av ad;refine Aq rfl ?_;refine eK ?_;refine AH [_,_] Ac rfl rfl rfl Z rfl rfl rfl ?_;refine kQ (HR.out _ rfl _ _ Af) ?_;rintro _ i0 ⟨f0,f1,⟨⟩,bz,d8⟩;revert a5 ay N G aa X O Z q1 q2 Y V hs ex q3 q4 U;refine eY d8 ?_;intro i1 a5 ay N G aa X O Z q1 q2 Y V hs ex q3 q4 U;refine eS [_,_] Z ?_;intro i2 ct a9 i3;clear Z;have bz:=Ats.fr bz a9 (λb Z e=>Z.elim (λg=>by have:=g.2.1;(try dsimp only at e);omega) (λg=>by (try dsimp only at e);omega));revert a5 ay N G aa X O q1 q2;refine eF a9 ?_;intro a5 ay N G aa X O q1 q2
         have Y:=mT Y a9 (λb Z e=>by have:=Z.2.1;(try dsimp only at e);omega);have V:=mT V a9 (λb Z e=>by have:=Z.2.1;(try dsimp only at e);omega);revert hs ex q3 q4;refine eF a9 ?_;intro hs ex q3 q4;have U:=nj U a9 (λk hk e=>hk.elim (λg=>by have:=b1 k (gA g);(try dsimp only at e);omega) (λg=>(ah k g).elim (λg2=>(hM k g2).2 e) (λg2=>by (try dsimp only at e);omega)));refine cN (C1 Mv (C1 Mv (C1 V2 (C1 Mv (AP rfl rfl rfl (Cb (not_not_intro rfl)) (AH [_,_,_,_,_,_] Ac rfl rfl rfl N rfl rfl rfl (AP rfl rfl rfl (Cb (not_not_intro rfl)) (AH [_,_,_,_,_,_] Ac rfl rfl rfl a5 rfl rfl rfl (AP rfl rfl rfl (Cb (not_not_intro rfl)) (cC rfl (Kr ⟨b2,da,⟨db,dc,dd⟩,de⟩ Af _ _ _ _ _ _ _ _ _ _ _ _ _ _ _ G Af) ?_))))))))));rintro _ i4 ⟨⟨⟩,d9⟩;revert ct bz a5 ay N G aa X O q1 q2 Y V hs ex q3 q4 U;refine eY d9 ?_;intro i5 ct bz a5 ay N G aa X O q1 q2 Y V hs ex q3 q4 U;refine AP rfl rfl rfl (Cb (not_not_intro rfl)) (C1 Pt (C1 (Qn (not_not_intro rfl)) (cT (AO rfl (Am (Ah ?_))))));rotate_left
        all_goals exact BC (_,_) sC ⟨Af,Fe Af Ab,cB Af Ab Ab Ab (λk h=>(ah k h).elim (λg=>by have:=aq k (gB g);omega) (λg=>by omega)),Af,Af,Af,Af,Af,Ab⟩
     . rintro ⟨ea,eb⟩ w5 ⟨af,Y,V,Z,hs,O,hx,X,kd⟩;simp only at V Z;have HA:=fZ (λS1 S2 w1 h1 h2 h3 h4=>ZI an b0 ai l c3 hp b6 L2 Ab bc x.stu (· < w.heap.size) S1 S2 a c ra rc ea eb w1 h1 h2 h3 h4);unfold SB.cells at *;refine eK ?_;refine AH [_,_] Ac rfl rfl rfl Z rfl rfl rfl ?_;refine kC (HA.out _ _ _ Af Af Af Af) ?_;rintro _ ke ⟨⟨⟩,f2⟩;revert af Y V Z hs O hx X;refine eY f2 ?_;intro kf af Y V Z hs O hx X;refine C1 Pt (cT (AO rfl (Am (Ah (Ai (Ak (C1 Mv (C1 V7 (C1 Pa (Al ?_))))))))));exact Av (i+1,an,ea,eb) sB ⟨ba,by dsimp only;rw [b9];assumption,λk hk=>(ah k hk).elim (hM k) (λg=>by omega),Fe Af Ab,by dsimp only;rw [b9];exact Fe Af Ab,by dsimp only;rw [b9];assumption,Af,Af,Af⟩ (by dsimp only;omega)
   . obtain rfl:i=ab.length:=by omega
     refine kR ?_;exact ⟨rfl,X⟩
end Bk
