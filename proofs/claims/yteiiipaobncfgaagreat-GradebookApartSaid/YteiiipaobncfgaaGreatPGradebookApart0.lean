/- Texts that the proofs of GradebookNone, GradebookFull, GradebookNew, GradebookRanks, GradebookApart need. No condition. (Part 13 of 13.) -/
import Derived.Test.YteiiipaobncfgaaGreatPGua8
set_option linter.unusedSimpArgs false
set_option linter.unusedVariables false
set_option linter.defProp false
set_option maxRecDepth 100000
set_option maxHeartbeats 4000000
open Go.Proofs.Tryz
open List renaming getElem?_eq_getElem->gm,take_succ_eq_append_getElem->gx,getElem_mem->gA,length_cons->gD,take_length->gF,getElem?_eq_none->gG,getElem?_append_left->gJ,length_append->gO,replicate->gT,getElem?_append_right->gU,getElem?_map->gV,drop_eq_getElem_cons->gW,getElem?_cons_zero->gX,getD_eq_getElem?_getD->gY,append_assoc->gZ,length_nil->hH,mem_singleton->ia,length_take->ij,mem_cons->ik,map_cons->im,mem_of_getElem?->io,range->it,getElem?_set_ne->iF,not_mem_nil->iH
open Go.Lib renaming hid->gp
open Or renaming inl->gq,inr->gt
open Bool renaming and_eq_true->gu,false_eq_true->iE
open Go.Result renaming andThen->gw
open Option.some renaming injEq->gy,inj->gB
open Go.IntWalk renaming i64_in->gz
open Nat renaming zero_le->gC,le_refl->gI,lt_or_ge->gK,blt->gM,le_of_ble_eq_true->gS,eq_of_beq_eq_true->ip,zero_add->iu,ble->iy,beq->iA
open Go.Sem renaming run_bind->gE,run_pure->gP
open Go renaming Calls->gH
open Except renaming bind->gL
open Go.Value renaming slice->gN,int->ii,ownBlock->iI
open Go.Region renaming ready->gQ,binds->iw
open Go.Value.slice renaming injEq->gR
open Go.DataW renaming trod->ic
open List.cons renaming injEq->ig
open Go.Builtin renaming zeroCells->iq
open Go.Calls renaming mono->ir
open Array renaming getElem?_eq_none->iv,replicate->iD
open Go.Oper renaming wp->iB
open Go.Addr renaming add->iC
open Go.IntKind renaming wrap->iG
open Go.Op renaming equalIn->iJ
open Bk.Ext renaming fr->iY
namespace Bk
open Go Go.RowKit Go.Proofs
variable {l:List EX} {M:List AtV} {g:Nat} {w:wD} {S:nP} {G:lV}
def Eh (s:Bv) (L L':List AtV):Prop:= ∀n,Cb L s n=Cb L' s n/\C4 L s n=C4 L' s n
def K3 {s:Bv} {L G:List AtV} (h:Eh s L G):∀ps:List (Bv×Int),Cf L s ps=Cf G s ps
 | []=>rfl
 | x::r=>by rw [Cf,Cf,K3 h r,(h x.1).1]
def Hy (L:List AtV) (a:AtV) (s n:Bv):Cb (L++[a]) s n=(Cb L s n||(decide (a.s=s)&&(decide (a.n=n)&&a.ok))):=by simp [Cb,List.any_append]
def Kt (L:List AtV) (a:AtV) (s n:Bv):C4 (L++[a]) s n=C4 L s n+if decide (a.s=s)&&decide (a.n=n) then 1 else 0:=by unfold C4;rw [List.countP_append,List.countP_singleton]
def SL {s t n:Bv} {L:List AtV} (h:Eh s L M) (G:t≠s) (ok:Bool):Eh s L (IW M t n ok):=by
 unfold IW;split
 . exact h
 . intro m;rw [Hy,Kt,(h m).1,(h m).2];simp [G]
def XY {s n:Bv} {L:List AtV} (h:Eh s L M) (ok:Bool):Eh s (IW L s n ok) (IW M s n ok):=by
 unfold IW;rw [(h n).1];split
 . exact h
 . intro m;rw [Hy,Kt,Hy,Kt,(h m).1,(h m).2];exact ⟨rfl,rfl⟩
def O0 {es:List EX} {s t n:Bv} {p:PG} {L:List AtV} (h:Eh s L M) (G:t≠s):Eh s L (Bz es M t n p).2:=by
 unfold Bz;split
 . split
   . exact h
   . split
     . exact h
     . split
       . exact h
       . exact SL h G _
 . exact h
def SM {es:List EX} {s n:Bv} {p:PG} {L:List AtV} (h:Eh s L M):Eh s (Bz es L s n p).2 (Bz es M s n p).2:=by
 unfold Bz;split
 . split
   . exact h
   . split
     . exact h
     . split
       . exact h
       . exact XY h _
 . exact h
def FlatX (S:nP) (w:wD) (l:List EX) (ds:lV):Prop:=ds.length=l.length*12/\ds.all Value.one=true /\ ∀i e,l[i]? = some e -> ∃va vc pa pc ma mc,(ds.drop (i*12)).take 12=e.cells va vc pa pc ma mc/\e.sits S w va pa ma vc
def Z4 {S:nP} {w:wD} {b:Nat}:∀(l:List EX) (o:Nat),(∀i e,l[i]? = some e->dG S w b (o+i*12) e) -> ∃G,Row w ⟨b,o,none⟩ G/\FlatX S w l G
 | [],o,_=>⟨[],λi v h=>by simp at h,rfl,rfl,λi e h=>by simp at h⟩
 | e::r,o,h=>by
  obtain ⟨N,vc,O,U,V,X,Y,Z⟩:=h 0 e rfl;obtain ⟨G,k1,k2,k3,k4⟩:=Z4 r (o+12) (λi x M=>by have:=h (i+1) x M;rwa [show o+(i+1)*12=o+12+i*12 from by omega] at this);rw [show o+0*12=o from by omega] at Y;refine ⟨e.cells N vc O U V X++G,SY Y k1,?_,by rw [List.all_append,k3];rfl,λi x M=>?_⟩
  . rw [gO,k2,gD,show (e.cells N vc O U V X).length=12 from rfl];omega
  cases i with
  | zero=>
   obtain rfl:=gB M;exact ⟨N,vc,O,U,V,X,by rw [Nat.zero_mul,List.drop_zero];exact List.take_left' rfl,Z⟩
  | succ i=>
   obtain ⟨a1,a2,a3,a4,a5,a6,e1,e2⟩:=k4 i x M;refine ⟨a1,a2,a3,a4,a5,a6,?_,e2⟩;rw [show (i+1)*12=12+i*12 from by omega,<-List.drop_drop];exact e1
def EXs.flat {a:oA} (h:EXs S w l a):∃G,Rows S w G a/\FlatX S w l G:=by
 rcases h with rfl|⟨b,o,rfl,M,N⟩
 . exact ⟨[],gq rfl,rfl,rfl,λi e h=>by simp at h⟩
 . obtain ⟨G,O,U⟩:=Z4 l o N;exact ⟨G,gt ⟨b,o,rfl,M,O⟩,U⟩
def FlatX.ext {S:nP} {w w':wD} {l:List EX} {G:lV} (h:FlatX S w l G) (x:Ext w w'):FlatX S w' l G:=
 ⟨h.1,h.2.1,λi e M=>by obtain ⟨N,O,a3,a4,a5,U,V,X⟩:=h.2.2 i e M;exact ⟨N,O,a3,a4,a5,U,V,X.ext x⟩⟩
instance {w':wD}:LfE w w' (FlatX S w l G) (FlatX S w' l G):=⟨λx h=>Bk.FlatX.ext h x⟩
def FlatX.fr {S T:nP} {w w':wD} {l:List EX} {G:lV} (h:FlatX S w l G) (x:Fr T w w') (M:∀b,S b -> ¬T b):FlatX S w' l G:=
 ⟨h.1,h.2.1,λi e N=>by obtain ⟨O,U,a3,a4,a5,V,X,Y⟩:=h.2.2 i e N;exact ⟨O,U,a3,a4,a5,V,X,Y.fr x M⟩⟩
instance {T:nP} {w':wD}:LfF T w w' (FlatX S w l G) (∀b,S b -> ¬T b) (FlatX S w' l G):=⟨λx s h=>Bk.FlatX.fr h x s⟩
def FlatX.exs {S':nP} (h:FlatX S w l G) (M:Row w ⟨g,0,none⟩ G) (N:∀b,S b->S' b) (O:S' g):EXs S' w l (some ⟨g,0,none⟩):=by
 refine gt ⟨g,0,rfl,O,λi e U=>?_⟩;obtain ⟨V,X,a3,a4,a5,Y,Z,e2⟩:=h.2.2 i e U;refine ⟨V,X,a3,a4,a5,Y,?_,e2.wide N⟩;rw [<-Z];exact Row.sub M (i*12) 12
def PtsIn (n j:Nat) (cs:lV):Prop:=n*12<=cs.length /\ ∀i,j<=i->i<n -> ∃p:Int,0<=p/\p<=1000/\cs[0+i*12+1]? = some (.int .i64 p)
def PtsIn.next {n j:Nat} {cs:lV} (h:PtsIn n j cs) (hj:j<n) (u v:Value):PtsIn n (j+1) ((cs.set (0+j*12+1) u).set (0+j*12) v):=by
 refine ⟨by simpa using h.1,λi h1 h2=>?_⟩;obtain ⟨p,p1,p2,p3⟩:=h.2 i Ab h2;exact ⟨p,p1,p2,by rw [iF Ab,iF Ab];exact p3⟩
def FlatX.pts (h:FlatX S w l G) (O:∀e∈l,0<=e.points/\e.points<=1000) {cs:lV} (V:∀i:Nat,i<G.length->cs[i]? = G[i]?) (X:G.length<=cs.length):PtsIn l.length 0 cs:=by
 refine ⟨by rw [<-h.1];exact X,λi _ M=>?_⟩;obtain ⟨Z,a2,a3,a4,a5,a6,Y,-⟩:=h.2.2 i l[i] (gm M);refine ⟨l[i].points,(O _ (gA M)).1,(O _ (gA M)).2,?_⟩;have N:0+i*12+1<G.length:=by rw [h.1];omega
 rw [V _ N];have U:((G.drop (i*12)).take 12)[1]? = some (.int .i64 l[i].points):=by rw [Y];rfl
 rw [List.getElem?_take,AQ Ab,List.getElem?_drop] at U;rw [show 0+i*12+1=i*12+1 from by omega];exact U
def K4 {P:Program} {m:Nat} {l:Sl} {tab:Tab} {ty:TypeId} {x y:Operand} {t i:Nat} {s:Sk} {vs:lV} {u:Value} (TT:TabOk P tab) (ht:Az tab t=some (s,1)) (hx:ev l x=some (.pointer (some ⟨g,i,none⟩))) (hy:ev l y=some u) (hu:u.cells = #[u]) (h1:Value.one u=true)
 (hb:Blk w g vs) (hi:i<vs.length) :
 BD P m l (.store t x y) ty w (FY λw'=>Blk w' g (vs.set i u)/\Fr (· = g) w w'/\w'.heap.size=w.heap.size):=by
 have hd:=Do (P:=P) (n:=m) (l:=l) (ty:=ty) (us:=[u]) TT ht hx hy hu rfl (by simp [h1]) hb (by rw [Nat.ble_eq];simp;omega);unfold BD at hd ⊢;intro a dst pos after gd next Q ha hn b;refine hd a dst pos after gd next Q ha (λv' w' h=>h.elim) (λw' hP=>b w' ⟨?_,hP.fr,hP.size⟩);have h1:=hP.blk;simpa [A8] using h1
def OwnF.full {e sz B:Nat} {cap n:Nat} {cs:lV} (h:OwnF e sz B w g cap n cs):∃M,Blk w g M/\cs.length<=M.length /\ ∀i:Nat,i<cs.length->M[i]? = cs[i]? := by
 obtain ⟨-,O,U⟩:=h;rcases U with ⟨G,-⟩|⟨g',N,cur,G,-,V,X,-,Y,Z⟩
 . simp at G
 . simp only [gR,gy,Addr.mk.injEq,and_true,true_and] at G;obtain ⟨rfl,rfl⟩:=G;refine ⟨cur.toList,⟨e,by simpa using V⟩,?_,λi hi=>?_⟩
   . rw [O,Array.length_toList,Y];exact Nat.mul_le_mul_right sz X
   . rw [<-Z,List.getElem?_take,AQ Ab]
def Rr {V M N X G:nP} {w0 n Y O n3:Nat} (Z:∀k,S k\/V k->w0<=k /\ ¬(N k\/X k)) (l1:∀k,S k\/V k->k<n) (l2:∀k,N k\/X k->k<n) (h1:∀k,M k->V k\/Y<=k/\k<O) (h2:∀k,G k->X k\/O<=k/\k<n3) (hw:w0<=n) (hn:n<=Y) (aa:Y<=O) :
 ∀k,S k\/M k->w0<=k /\ ¬(N k\/G k):=λk hk=>by
 have key:∀k,N k\/G k->(N k\/X k)\/O<=k:=λk h=>h.elim (λg=>gq (gq g)) (λg=>(h2 k g).elim (λg=>gq (gt g)) (λg=>gt g.1))
 have k1:(S k\/V k)\/Y<=k/\k<O:=hk.elim (λg=>gq (gq g)) (λg=>(h1 k g).imp gt id);rcases k1 with g|⟨g,g'⟩
 . refine ⟨(Z k g).1,λh=>(key k h).elim (Z k g).2 (λh=>by have:=l1 k g;omega)⟩
 . exact ⟨Ab,λh=>(key k h).elim (λh=>by have:=l2 k h;omega) (λh=>by omega)⟩
def Z5 {N G:nP} {w0 O U:Nat} (h:∀k,S k\/N k->w0<=k) (V:∀k,G k->N k\/O<=k/\k<U) (Y:w0<=O):∀k,S k\/G k->w0<=k:=λk X=>X.elim (λg=>h k (gq g)) (λg=>(V k g).elim (λg=>h k (gt g)) (λg=>by omega))
def ZM {i:Nat} {cs:lV} {v:Value} (h:Blk w g cs) (M:cs[i]? = some v):Row w ⟨g,i,none⟩ [v]:=λk u G=>by
 cases k with
 | zero=>
  obtain rfl:=gB G;have:=h.cell M;simpa [iC] using this
 | succ k=>simp at G
attribute [local irreducible] Go.Calls
def BkAt.ltX {X:nP} {es:List EX} {L:List AtV} (h:BkAt S X w g es L):∀k,X k\/S k->k<w.heap.size:=by
 obtain ⟨_,_,_,-,-,-,-,N,O⟩:=h;exact λk U=>U.elim (λh=>(N k h).2) (O k)
set_option maxHeartbeats 8000000 in
def Vt (l:List EX) (subs:List SB) (hl:∀e∈l,e.name.length<=9223372036854775807/\e.g.wf) (hsb:∀s∈subs,s.wf) (S S':nP) (a a':oA) (c c':Nat) (w:wD) (hs:EXs S w l a) (hs':SBs S' w subs a') :
 Calls prog 7 #[.slice a l.length c,.slice a' subs.length c'] w λe w'=>e = .returned (.bool true)/\Ext w w':=by
 have X:=Ext.refl w;have hs:=hs.ltA;have hs':=hs'.ltA;have HM:=gp (λw1 h1 h2=>OV l subs (λe he=>(hl e he).2) (λs hs=>(hsb s hs).ans) (· < w.heap.size) (· < w.heap.size) a a' c c' w1 h1 h2);refine Ad func7 ntmps7 rfl rfl ?_
 focus
  refine eK ?_;refine cC rfl (Gt _) ?_;rintro _ w2 ⟨⟨⟩,x1⟩;revert X hs hs';refine eY x1 ?_;intro z3 X hs hs';refine eK ?_;refine eQ rfl (HM.out _ Af Af) ?_;rintro _ w7 ⟨q4,⟨⟩,h5,x6⟩;revert X hs hs';refine eY x6 ?_;intro z8 X hs hs';refine eK ?_;refine Ay rfl (λc9=>?_) (λc9=>?_);refine eK ?_;refine xR ?_;rotate_left;refine Ao (Ai ?_);rotate_left
 . exact ⟨rfl,X⟩
 obtain ⟨ad,bt,hfew,hsf⟩:=(h5.resolve_left c9).2;have hw:∀e∈l,e.wf/\e.fuel<=400:=λe he=>⟨⟨(hl e he).1,(hl e he).2,by have:=(hfew e he).1;omega⟩,(hfew e he).2⟩
 clear hl hfew h5 HM;obtain ⟨ds,hds,hfx⟩:=hs.flat;have hdl:=hfx.1;have hdo:=hfx.2.1;refine cS ?_;refine Ax (GF (B:=w.heap.size) Ac rfl rfl Ab) rfl ?_ aFh;rintro _ bu ⟨bv,rfl,bw,bx,bz,ah⟩;revert X hs hs' hds hfx;refine eY ah ?_;intro b0 X hs hs' hds hfx;refine C1 Mv ?_;refine Ax (GG Ac Cs rfl rfl rfl rfl AT rfl rfl rfl Af Af hdl hdo Ab) rfl ?_ aFh;rintro _ az ⟨o,D,rfl,I,ae,a0,R⟩;have a1:=R.size;revert X hs hs' hds hfx;refine eF R ?_;intro X hs hs' hds hfx;refine C1 Pa (cT ?_);rw [List.nil_append,iu] at I;rw [iu];have E:=hfx.exs (S':=λk=>k<w.heap.size\/k=o) I.row (λ_ h=>gq h) (gt rfl);obtain ⟨fs,hfs,hfl,hfg⟩:=I.full;have hga:w.heap.size<=o:=by omega
 rcases Decidable.em (E8 l=0) with h0|h0
 case inr=>
  have HN:=gp (λw1 h=>TJ l (λe he=>(hw e he).1) Ab rfl h0 (· < w.heap.size) a c w1 h);have HN2:=gp (λw1 h=>TJ l (λe he=>(hw e he).1) Ab rfl h0 (λk=>k<w.heap.size\/k=o) (some ⟨o,0,none⟩) D w1 h);clear hfx hds I hfs;refine eK ?_;refine cC rfl (HN.out _ Af) ?_;rintro _ b1 ⟨⟨⟩,ai⟩;revert X hs hs' E;refine eY ai ?_;intro b2 X hs hs' E;refine eK ?_;refine cC rfl (HN2.out _ Af) ?_;rintro _ b3 ⟨⟨⟩,aj⟩;revert X hs hs' E;refine eY aj ?_;intro b4 X hs hs' E;refine eK ?_;refine xR ?_;all_goals exact ⟨rfl,X⟩
 have hp:∀e∈l,0<=e.points/\e.points<=1000:=λe he=>by have:=((Kr h0).1 e he).1.2.1;omega
 have hpi:=hfx.pts hp hfg hfl;have HN:=gp (λw1 h=>Rd l (λe he=>(hw e he).1) Ab h0 (· < w.heap.size) a c w1 h);have HN2:=gp (λw1 h=>Rd l (λe he=>(hw e he).1) Ab h0 (λk=>k<w.heap.size\/k=o) (some ⟨o,0,none⟩) D w1 h);clear hfx hds I;refine eK ?_;refine eQ rfl (HN.out _ Af) ?_;rintro _ b5 ⟨q,Mc2,Xc3,⟨⟩,C,Z,ak⟩;revert X hs hs' E hfs;refine eY ak ?_;intro b6 X hs hs' E hfs;refine C1 Mv (C1 Px (C1 Px (C1 Pa (C1 Pa (cT ?_)))));have af:=BkAt.ltX C;refine eK ?_;refine eQ rfl (HN2.out _ Af) ?_;rintro _ b7 ⟨r,Md2,Xd3,⟨⟩,F,Q,al⟩;revert C X hs hs' E hfs;refine eY al ?_;intro b8 C X hs hs' E hfs;refine eK ?_;refine C1 (Ee Ac rfl rfl) ?_;refine eK ?_;refine C1 (Ee Ac rfl rfl) (C1 (Bm rfl rfl rfl) (cT (AY rfl (Ao (Ai (Aj (cS (C1 Pa (cT ?_)))))))));have aa:=X.size;have hM1:∀k,Xc3 k\/Mc2 k->w.heap.size<=k:=λk hk=>by have:=Z k hk;omega
 have hM2:∀k,Xd3 k\/Md2 k->w.heap.size<=k:=λk hk=>by have:=Q k hk;omega
 have ab:∀k,Xc3 k\/Mc2 k -> ¬k=o:=λk hk e=>by have:=Z k hk;omega
 have ac:∀k,Xd3 k\/Md2 k -> ¬k=o:=λk hk e=>by have:=Q k hk;omega
 clear HN HN2 E hfl hfg hdo hdl ae;refine As ?_;refine AG (ι:=Nat×lV) (λy=>[(0,.slice a l.length c),(1,.slice a' subs.length c'),(5,.slice (some ⟨o,0,none⟩) l.length D),(6,.pointer (some ⟨q,0,none⟩)),(8,.pointer (some ⟨r,0,none⟩)),(10,.int .i64 y.1)])
  (λy w'=>y.1<=l.length/\Blk w' o y.2/\PtsIn l.length y.1 y.2/\BkAt Mc2 Xc3 w' q l []/\BkAt Md2 Xd3 w' r l []/\EXs (· < w.heap.size) w' l a/\SBs (· < w.heap.size) w' subs a'/\Ext w w') (λy=>l.length-y.1) (0,fs) sB ⟨gC _,hfs,hpi,C,F,hs,hs',X⟩ ?_
 clear hfs hpi C F hs hs' X;rintro ⟨j,cs⟩ w1 ⟨hj,hfs,hpi,C,F,hs,hs',X⟩;simp only at hj hfs hpi;refine CW.sub (m:=[(0,.slice a l.length c),(1,.slice a' subs.length c'),(5,.slice (some ⟨o,0,none⟩) l.length D),(6,.pointer (some ⟨q,0,none⟩)),(8,.pointer (some ⟨r,0,none⟩)),(10,.int .i64 j)]) ?_ sB;by_cases hlt:j<l.length
 . obtain ⟨p,p1,p2,p3⟩:=hpi.2 j (gI _) hlt;have hnx:=λu v=>hpi.next hlt u v
   have hcl:=hpi.1;have rp:=ZM hfs p3;clear hpi p3;refine eK ?_;refine A2 (K4 Ac rfl rfl rfl rfl rfl Af (by (try rw [List.length_set]);omega)) (BA ?_);rintro _ b9 ⟨ca,M,cb⟩;have cc:=M.size;clear hfs;have C:=BkAt.fr C M (λk hk e=>ab k hk e);have F:=BkAt.fr F M (λk hk e=>ac k hk e);have hs:=EXs.fr hs M (λb hb e=>by (try dsimp only at hb e);omega);have hs':=SBs.fr hs' M (λb hb e=>by (try dsimp only at hb e);omega);have X:=iY X M (λk hk=>by (try dsimp only at hk);omega);clear rp M;refine eK ?_;refine A2 (K4 Ac rfl rfl rfl rfl rfl Af (by (try rw [List.length_set]);omega)) (BA ?_);rintro _ cd ⟨ce,N,cf⟩;have a2:=N.size;have C:=BkAt.fr C N (λk hk e=>ab k hk e);have F:=BkAt.fr F N (λk hk e=>ac k hk e);have hs:=EXs.fr hs N (λb hb e=>by (try dsimp only at hb e);omega);have hs':=SBs.fr hs' N (λb hb e=>by (try dsimp only at hb e);omega);have X:=iY X N (λk hk=>by (try dsimp only at hk);omega);refine Ak (Ah (Ai (Al (C1 Mv (C1 V7 (C1 Pa (Ak ?_)))))));exact Aw (j+1,_) sB ⟨hlt,Af,hnx _ _,Af,Af,Af,Af,Af⟩ (by simp only;omega)
 . obtain rfl:j=l.length:=by omega
   clear hfs hpi;refine Aj (cS (C1 Mv (C1 Mv (C1 Pz (C1 V3 (cT (C6 (BF (Av (Av (AO ?_)))))))))));refine Ai (Aj (cS (C1 Pa (cT ?_))));have hD1:∀k,Xc3 k\/Mc2 k->w.heap.size<=k /\ ¬(Xd3 k\/Md2 k):=λk hk=>⟨hM1 k hk,λh=>by have:=af k hk;have:=Q k h;omega⟩
   clear ab ac af hM1 Z Q;refine As ?_;refine AG (ι:=Nat×(nP)×(nP)×List AtV×List AtV) (λy=>[(0,.slice a l.length c),(1,.slice a' subs.length c'),(6,.pointer (some ⟨q,0,none⟩)),(8,.pointer (some ⟨r,0,none⟩)),(11,.int .i64 y.1)])
    (λy w'=>y.1<=subs.length/\BkAt y.2.1 Xc3 w' q l y.2.2.2.1/\BkAt y.2.2.1 Xd3 w' r l y.2.2.2.2/\Eh [97,110,110] y.2.2.2.1 y.2.2.2.2/\y.2.2.2.1.length<=y.1/\y.2.2.2.2.length<=y.1/\(∀k,Xc3 k\/y.2.1 k->w.heap.size<=k /\ ¬(Xd3 k\/y.2.2.1 k))/\(∀k,Xd3 k\/y.2.2.1 k->w.heap.size<=k)/\EXs (· < w.heap.size) w' l a/\SBs (· < w.heap.size) w' subs a'/\Ext w w') (λy=>subs.length-y.1) (0,Mc2,Md2,[],[]) sB
    ⟨gC _,C,F,λ_=>⟨rfl,rfl⟩,gI _,gI _,hD1,hM2,hs,hs',X⟩ ?_
   clear C F hs hs' X hD1 hM2;rintro ⟨i,M1,M2,L1,L2⟩ w1 ⟨hi,d,f,hsm,hL1,hL2,hD,hM2,hs,hs',X⟩;simp only at hi d f hsm hL1 hL2 hD hM2;refine CW.sub (m:=[(0,.slice a l.length c),(1,.slice a' subs.length c'),(6,.pointer (some ⟨q,0,none⟩)),(8,.pointer (some ⟨r,0,none⟩)),(11,.int .i64 i)]) ?_ sB;have aa:=X.size;by_cases hit:i<subs.length
   . have O:=BkAt.ltX d;have J:=BkAt.ltX f;have hsw:=hsb _ (gA hit);have hsv:=hsf _ (gA hit);obtain ⟨kb,ko,rfl,hkS,hk⟩:=Arr.get hs' Ab;obtain ⟨va,vc,pa,pc,ma,mc,rx,sx⟩:=hk i subs[i] (gm hit);clear hk hsb hsf;generalize subs[i]=x at *;have q1:=sx.g;have q2:=sx.p;have hvc:=sx.room;have HS1:=gp (λw1 h1 h2 h3=>MQ M1 Xc3 q l ad hw L1 Ab x.stu x.name hsw.stu x.ans hsw.ans hsv (· < w.heap.size) va vc pa pc ma mc w1 h1 h2 h3 hvc);have HS2:=gp (λw1 h1 h2 h3=>MQ M2 Xd3 r l ad hw L2 Ab x.stu x.name hsw.stu x.ans hsw.ans hsv (· < w.heap.size) va vc pa pc ma mc w1 h1 h2 h3 hvc);have n1:=Hw l L1 x.stu x.name x.ans;have n2:=Hw l L2 x.stu x.name x.ans;have hso:=λh:x.stu≠[97,110,110]=>O0 (es:=l) (n:=x.name) (p:=x.ans) hsm h
     have hsn:x.stu=[97,110,110]->Eh [97,110,110] (Bz l L1 x.stu x.name x.ans).2 (Bz l L2 x.stu x.name x.ans).2:=λh=>by rw [h];exact SM hsm
     clear sx hw hsw hsv hsm;generalize Bz l L1 x.stu x.name x.ans=v1 at *;generalize Bz l L2 x.stu x.name x.ans=v2 at *;unfold SB.cells at *;refine eK ?_;refine xA [_,_,_,_,_,_,_,_] ?_;intro cg ch am;refine eI [_,_,_,_,_,_,_,_] am ?_;intro ci G an cj ck;revert d f hs X hs' rx q1 q2;refine eE an ?_;intro d f hs X hs' rx q1 q2;refine cT (Aj ?_);by_cases hx:x.stu=[97,110,110]
     . refine eK ?_;refine eQ rfl (HS1.out _ Af Af Af) ?_;rintro _ a3 ⟨cl,cm,a4,a5,a6,a7,⟨⟩,ao,ap,M'h9,a8,T,U,t⟩;have a9:=t.size;have G:=Blk.fr G t (λe=>by have:=O _ (gt e);omega);have f:=BkAt.fr f t (λk hk hT=>(hD k (gt hT)).2 hk);have hs:=EXs.fr hs t (λb hb hT=>by have:=(hD _ (gt hT)).1;(try dsimp only at hb);omega);have X:=iY X t (λk hk=>(hD k (gt hk)).1);have hs':=SBs.fr hs' t (λb hb hT=>by have:=(hD _ (gt hT)).1;(try dsimp only at hb);omega);clear rx;have q1:=PG.sits.fr q1 t (λb hb hT=>by have:=(hD _ (gt hT)).1;(try dsimp only at hb);omega);have q2:=PDsC.fr q2 t (λb hb hT=>by have:=(hD _ (gt hT)).1;(try dsimp only at hb);omega);refine cT (Al (C1 Mv (C1 Pg (C1 (Pl G) (C1 Pf (C1 (Pl G) (C1 Pf (A3 [_,_,_,_,_,_] Ac rfl rfl rfl G rfl rfl rfl ?_))))))));clear ao ap HS1;refine eQ rfl (HS2.out _ Af Af Af) ?_;rintro _ ba ⟨cn,co,bb,bc,bd,be,⟨⟩,cp,cq,M'i9,bf,V,bg,z⟩;have bh:=z.size;have U:=BkAt.fr U z (λk hk hT=>hk.elim (λg=>(hD k (gq g)).2 (gt hT)) (λg=>(T k g).elim (λg2=>(hD k (gt g2)).2 (gt hT)) (λg2=>by have:=J k (gt hT);omega)));have G:=Blk.fr G z (λe=>by have:=J _ (gt e);omega);have hs:=EXs.fr hs z (λb hb hT=>by have:=hM2 _ (gt hT);(try dsimp only at hb);omega);have X:=iY X z (λk hk=>hM2 k (gt hk));have hs':=SBs.fr hs' z (λb hb hT=>by have:=hM2 _ (gt hT);(try dsimp only at hb);omega);have q1:=PG.sits.fr q1 z (λb hb hT=>by have:=hM2 _ (gt hT);(try dsimp only at hb);omega);have q2:=PDsC.fr q2 z (λb hb hT=>by have:=hM2 _ (gt hT);(try dsimp only at hb);omega);refine Ak (Ah (Ai (Al (C1 Mv (C1 V7 (C1 Pa (Ak ?_)))))))
       exact Aw (i+1,M'h9,M'i9,v1.2,v2.2) sB ⟨hit,Af,Af,hsn hx,by simp only;omega,by simp only;omega,Rr hD O J T V aa Ab Ab,Z5 hM2 V Ab,Af,Af,Af⟩ (by simp only;omega)
     . refine eK ?_;refine eQ rfl (HS2.out _ Af Af Af) ?_;rintro _ bi ⟨cr,ct,bj,bk,bl,bm,⟨⟩,cu,cv,M'j9,bn,W,bo,A⟩;have bp:=A.size;have G:=Blk.fr G A (λe=>by have:=J _ (gt e);omega);have d:=BkAt.fr d A (λk hk hT=>(hD k hk).2 (gt hT));have hs:=EXs.fr hs A (λb hb hT=>by have:=hM2 _ (gt hT);(try dsimp only at hb);omega);have X:=iY X A (λk hk=>hM2 k (gt hk));have hs':=SBs.fr hs' A (λb hb hT=>by have:=hM2 _ (gt hT);(try dsimp only at hb);omega);clear rx;have q1:=PG.sits.fr q1 A (λb hb hT=>by have:=hM2 _ (gt hT);(try dsimp only at hb);omega);have q2:=PDsC.fr q2 A (λb hb hT=>by have:=hM2 _ (gt hT);(try dsimp only at hb);omega);refine Ak (Ah (Ai (Al (C1 Mv (C1 V7 (C1 Pa (Ak ?_)))))));exact Aw (i+1,M1,M'j9,L1,v2.2) sB ⟨hit,Af,Af,hso hx,by simp only;omega,by simp only;omega,Rr hD O J (λ_ h=>gq h) W aa (Nat.le_succ_of_le (gI _)) Ab,Z5 hM2 W Ab,Af,Af,Af⟩ (by simp only;omega)
   . obtain rfl:i=subs.length:=by omega
     clear hs';have HP1:=gp (λw1 h=>Fw M1 Xc3 q l Ab hp L1 [97,110,110] w1 h);have HP2:=gp (λw1 h=>Fw M2 Xd3 r l Ab hp L2 [97,110,110] w1 h);rw [<-K3 hsm (Ir l)] at HP2;generalize Cf L1 [97,110,110] (Ir l)=pt at *;refine eK ?_;refine cC rfl (HP1.out _ Af) ?_;rintro _ cw ⟨⟨⟩,aq⟩;revert d f hs X;refine eY aq ?_;intro cx d f hs X;refine C1 Mv (cC rfl (HP2.out _ Af) ?_);rintro _ cy ⟨⟨⟩,ar⟩;revert d f hs X;refine eY ar ?_;intro cz d f hs X;refine C1 V2 (cT (C6 (Ao (Ai (Aj (cS (C1 Pa (cT ?_))))))));refine As ?_;refine AG (ι:=Nat) (λi=>[(0,.slice a l.length c),(6,.pointer (some ⟨q,0,none⟩)),(8,.pointer (some ⟨r,0,none⟩)),(13,.int .i64 i)])
      (λi w'=>i<=l.length/\BkAt M1 Xc3 w' q l L1/\BkAt M2 Xd3 w' r l L2/\EXs (· < w.heap.size) w' l a/\Ext w w') (λi=>l.length-i) 0 sB ⟨gC _,d,f,hs,X⟩ ?_
     clear d f hs X HP1 HP2;rintro i w2 ⟨hi,d,f,hs,X⟩;by_cases hit:i<l.length
     . obtain ⟨kb,ko,rfl,-,hk⟩:=Arr.get hs Ab;obtain ⟨va,vc,pa,pc,ma,mc,rx,-⟩:=hk i l[i] (gm hit);have HA1:=gp (λw1 h=>GT M1 Xc3 q l L1 [97,110,110] l[i].name w1 h);have HA2:=gp (λw1 h=>GT M2 Xd3 r l L2 [97,110,110] l[i].name w1 h);rw [<-(hsm l[i].name).2] at HA2;clear hk hsm hw hp;generalize l[i]=e at *;generalize C4 L1 [97,110,110] e.name=at1 at *;unfold EX.cells at *;refine eK ?_;refine Aq (λwz=>Ext w2 wz) 13 (.pure 0 (.pure 1 (.pure 2 (.pure 3 (.pure 4 (.pure 5 (.pure 7 (.pure 8 (.pure 9 (.pure 10 (.pure 11 (.pure 12 (.fork 6 .tail .none))))))))))))) mixed AT (Aa (Ae (Aa (Aa (Ae (Aa Ag)))))) ?_;intro au ag _;have L:(λwz=>Ext w2 wz) au:=ag;simp only at L;have av:=d;have aw:=f;have bq:=hs;have Y:=rx;revert d f X hs rx;refine eY ag ?_;intro c0 d f X hs rx;refine ⟨L,?_⟩;refine eT ?_;refine Tq rfl (Ap Ac rfl rfl rfl (λwz hz=>Row.at0 (Row.ext Y hz) rfl)) ?_;refine eT ?_;refine Tq rfl (Ap Ac rfl rfl rfl (λwz hz=>Row.at0 (Row.ext Y hz) rfl)) ?_;refine tC rfl rfl (HA1.out _ Af) ?_;rintro _ c1 ⟨⟨⟩,ax⟩;revert L d f X hs rx;refine eY ax ?_;intro c2 L d f X hs rx;refine ⟨L,?_⟩;refine At rfl (cC rfl (HA2.out _ Af) ?_);rintro _ br ⟨⟨⟩,ay⟩;revert d f X hs rx;refine eY ay ?_;intro bs d f X hs rx;refine C1 V2 (cT (C6 (Ao (Ah (Ai (Al (C1 Mv (C1 V7 (C1 Pa (Ak ?_))))))))))
       all_goals exact Aw (i+1) sB ⟨hit,Af,Af,Af,Af⟩ Ab
     . obtain rfl:i=l.length:=by omega
       refine eK ?_;refine xR ?_;exact ⟨rfl,X⟩
end Bk
namespace Bk
open Go Go.RowKit Go.Proofs
def Apart_d (l:List EX) (a:oA) (c:Nat) (h:List SB) (G:oA) (M:Nat) (w:wD) (_:l.length<=9223372036854775807) (_:l.length<=c) (O:∀e∈l,e.name.length<=9223372036854775807/\e.g.wf) (U:EXs DF w l a) (_:h.length<=9223372036854775807) (_:h.length<=M) (V:∀s∈h,s.wf) (N:SBs DF w h G) :
 Calls prog 7 #[.slice a l.length c,.slice G h.length M] w λe w'=>e = .returned (.bool true)/\Ext w w':=Vt l h O V DF DF a G c M w U N
end Bk
