/- Texts that the proofs of GradebookAll need. No condition. (Part 6 of 6.) -/
import Derived.Test.YteiiipaobncfgaaGreatPGam5
set_option linter.unusedSimpArgs false
set_option linter.unusedVariables false
set_option linter.defProp false
set_option maxRecDepth 100000
set_option maxHeartbeats 4000000
open Go.Proofs.Tryz
open Or renaming inl->iG,inr->iH
open Go.Result renaming andThen->iP
open Except renaming bind->i6
open Go renaming Calls->i9
open Go.Value renaming slice->jf,int->jz,ownBlock->km
open Nat renaming blt->jg,ble->jW,beq->ke
open Go.Region renaming ready->jj,binds->jN
open List renaming replicate->jn,range->jQ
open Go.Builtin renaming zeroCells->jG
open Go.IntKind renaming wrap->jP
open Array renaming replicate->jZ
open Go.Oper renaming wp->kh
open Go.Addr renaming add->ki
open Go.Sem renaming run->kG
open Bk.Nd renaming sits->nm
open Bk.DCx renaming grow->nu
open Bk.VdV renaming zero->nw
namespace Bk
open Go Go.RowKit Go.Proofs
attribute [local irreducible] Go.Calls
variable {n G:Nat} {w w':wD} {Q:Exit->Act->wD->Prop} {P:Program} {S:nP} {e:Ending} {es:List EX} {xs:List BA} {l:Sl} {a:oA} {vs:lV} {α:Type} {s:BA} {b:SV}
def SV.row_of {s:SV} {ta oa:oA} {c h m k:Nat} (M:s.cells.length=n) (N:s.tin.length=m) (O:s.tout.length=k):s.row a c ta h oa G=[.slice a n c,.slice ta m h,.slice oa k G]:=by subst M N O;rfl
set_option maxHeartbeats 8000000 in
def Ys (x:DCx) (hx:x.Ok) (J Jx:(nP)->List SV->wD->Prop) (hJ:EM x.c J) (S:List SV)
 (hY:∀A pre s vs W1,(∀k,A k->x.c<=k/\k<W1.heap.size)->J A pre W1->P2 x.c W1 vs s->(pre++[s]) <+: S->YieldAt (WF none) 0 prog x.y vs.toArray W1 (SRes x.Rt J Jx A (pre++[s]) W1))
 (F:List (List Int)) (A:nP) (out:List SV) (W:wD) (left:Int) (hc:F.length=x.ls.length) (ae:∀xs∈F,xs.length<=1000) (M:x.D J A out W F) (V:(out++[IM F]) <+: S) :
 Calls prog 115 #[.int .i64 F.length,.int .i64 left,pt x.bS,pt x.bY,pt x.bL,pt x.bR,pt x.bH,pt x.bN] W
  (x.End J Jx S A (out++[IM F]) (λG=>G=F)):=by
 obtain ⟨d,hd⟩:∃d,x.ls.length=d+1:=⟨x.ls.length-1,by have:=hx.n.1;omega⟩
 have aw:d<=32:=by have:=hx.n.2;omega
 obtain ⟨b,⟨cs,af,ah⟩,ai⟩:=M.l.sits hc hx.n.1 M.ag;obtain ⟨us,hr,hu,-⟩:=af.row ah;subst hu;rw [hd] at hr;have am:Row W ⟨x.g,0+d*1,none⟩ [.slice (some ⟨b,0,none⟩) (F.getLastD []).length (F.getLastD []).length]:=hr;have an:((d+1:Nat):Int)-1=(d:Int):=by omega
 have Y:jP .i64 (((d+1:Nat):Int)-1)=(d:Int):=by rw [an];exact iO _ Ab
 have y0:=M.k.y0;have s0:=M.k.s0;rw [hd] at s0;have e1:(IM F).cells.length=d:=by show F.dropLast.length=d;rw [lq];omega
 have e2:(IM F).tin.length=(F.getLastD []).length:=rfl;have e3:(IM F).tout.length=0:=rfl;have ax:(F.getLastD []).length<=1000:=by
  rw [List.getLastD_eq_getLast?];cases hF:F.getLast? with
  | none=>simp
  | some v=>exact ae v (List.mem_of_getLast? hF)
 have HC:=iF (λw1 (h:(IM F).sits (λk=>k<W.heap.size) w1 (some ⟨x.g,0,none⟩) (some ⟨b,0,none⟩) none)=>
  KQ (IM F) _ _ _ none (d+1) (F.getLastD []).length 0 w1 Ab (λxs hx=>by have:=ae xs (List.dropLast_subset _ hx);omega) Ab Ab h)
 have aa:=ai.wide (S':=λk=>k<W.heap.size) (λk N=>(M.lt k N).2);have ao:=iF hY;have HD:=iF M;rw [SV.row_of e1 e2 e3] at HC;rw [hc,hd];generalize (F.getLastD []).length=ll at *;have X:=Ne W;refine Ad func115 ntmps115 rfl rfl (eK ?_);refine Aq (λwz=>Ext W wz) 10 (.pure 0 (.pure 1 (.pure 2 (.pure 3 (.pure 4 (.pure 5 (.pure 6 (.pure 7 (.pure 8 (.pure 9 .tail)))))))))) mixed AU (Aa (Aa Ag)) ?_;intro w1 x2 _;have aj:(λwz=>Ext W wz) w1:=x2;simp only at aj;have Z:=s0;have ab:=am;revert y0 aa X;refine eY x2 ?_;intro z4 y0 aa X;refine ⟨aj,(Tq rfl (Db Z) (Tq rfl Mv (Tq rfl (AL (c:=(d:Int)) rfl rfl Y) (Tq rfl (DN (m:=d) Ac rfl rfl rfl rfl rfl Ab) (Tq rfl (Db Z) (Tq rfl Mv (Tq rfl (AL (c:=(d:Int)) rfl rfl Y) (Tq rfl Pi (Tq rfl (Ap Ac rfl rfl rfl (λwz hz=>mO (mJ ab hz) rfl)) (Tq rfl Pa (Ar rfl (C1 Pa (cT (Aj (QN (λwz=>Ext w1 wz) 5 (.pure 0 (.pure 1 (.pure 2 (.pure 3 (.fork 4 .tail .none))))) mixed AU (Aa (Aa Ag)) (Bw (Bw (J3 DCx.end_nl))) ?_)))))))))))))))⟩;intro w3 x3 _;refine ⟨x3,(GY rfl (Ap Ac rfl rfl rfl (λwz hz=>mM (mN y0 hz) rfl)) rfl (GY rfl (Av rfl) rfl (GY rfl (Av rfl) rfl (GY rfl (D3 [.slice (some ⟨x.g,0,none⟩) d (d+1),.slice (some ⟨b,0,none⟩) ll ll,.slice none 0 0] Ac CC rfl rfl rfl rfl) rfl (PE rfl rfl (AM AU rfl (HC.out _ (aa.ext x3)) (λ_ _ h=>h.ret)) rfl ?_ aFh PC)))))⟩;rintro _ w4 ⟨ca,cc,ta,tc,oa,oc,⟨⟩,ap,x4⟩;have ak:=m8 x3 x4;refine ⟨ak,(T8 rfl ?_)⟩;have X4:=X.trans ak;have au:=X4.size;have M:=HD.out
 have U:∀k,nu A W w4 k->x.c<=k/\k<w4.heap.size:=λk N=>N.elim (λh=>⟨(M.lt k h).1,by have:=(M.lt k h).2;omega⟩) (λh=>⟨by have:=M.sz;omega,h.2⟩)
 have J4:=DCx.grow_j hJ M.j M.lt M.sz (mG X4);have O:∀k,A k->nu A W w4 k:=λk h=>iG h
 have av:=M.sz;refine My rfl rfl (ao.out _ out (IM F) [_] w4 U J4 ⟨ca,cc,ta,tc,oa,oc,rfl,nC ap (λb hb=>by have:=x3.size;have:=X.size;omega)⟩ V) (λ_ _ h=>h.ret) rfl ?_;rintro v w6 ⟨ac,aq⟩;refine W0 (Bw (Bw (J3 DCx.end_nl))) rfl ?_;have hT:∀k,x.fix k -> ¬ ¬(nu A W w4 k\/x.Rt k):=λk N e=>e ((M.own k N).elim iH (λh=>iG (iG h)))
 have K6:=(M.k.fr (T:=λ_=>False) (mG X4) (λ_ _ h=>h)).fr ac hT;have L6:=((M.l.fr (T:=λ_=>False) (mG X4) M.ag (λ_ _ h=>h)).fr ac M.ag (λk N e=>e (iG (iG N)))).more O;have ay:=ac.size;have al:=M.own;have ar:=M.ag;rcases aq with ⟨⟨⟩,ad⟩|⟨⟨⟩,ad⟩
 . refine kR ?_;exact ⟨true,_,rfl,O,iG ⟨rfl,F,rfl,K6,L6,ad,λk N=>⟨(U k N).1,by have:=(U k N).2;omega⟩,λk N=>(al k N).imp id (O k),O _ ar,Ab⟩⟩
 . refine kR ?_;exact ⟨false,_,rfl,O,iH ⟨rfl,λk N=>(U k N).1,_,V,ad⟩⟩
abbrev DCx.argL (x:DCx) (c:Nat) (left:Int):lV:=[.int .i64 c,.int .i64 left,.pointer (some ⟨x.bS,0,none⟩),.pointer (some ⟨x.bY,0,none⟩),.pointer (some ⟨x.bL,0,none⟩),.pointer (some ⟨x.bR,0,none⟩),.pointer (some ⟨x.bH,0,none⟩),.pointer (some ⟨x.bN,0,none⟩)]
abbrev DCx.argN (x:DCx) (c i:Nat) (left:Int):lV:=[.int .i64 c,.int .i64 i,.int .i64 left,.pointer (some ⟨x.bS,0,none⟩),.pointer (some ⟨x.bI,0,none⟩),.pointer (some ⟨x.bH,0,none⟩),.pointer (some ⟨x.bR,0,none⟩),.pointer (some ⟨x.bN,0,none⟩)]
def DCx.CL (x:DCx) (J Jx:(nP)->List SV->wD->Prop) (S:List SV) (N:Nat):Prop:=
 ∀(F:List (List Int)) (A:nP) (out:List SV) (W:wD) (left:Int),(x.ls.length-F.length)*1002<N->F.length<=x.ls.length->(∀xs∈F,xs.length<=1000)->0<=left->left<=70000000->x.D J A out W F->(out++R5 x.h x.ls F left) <+: S ->
  Calls prog 115 (x.argL F.length left).toArray W (x.End J Jx S A (out++R5 x.h x.ls F left) (λG=>G=F))
def DCx.CN (x:DCx) (J Jx:(nP)->List SV->wD->Prop) (S:List SV) (N:Nat):Prop:=
 ∀(F:List (List Int)) (zs:List Int) (i:Nat) (A:nP) (out:List SV) (W:wD) (left:Int),(x.ls.length-F.length)*1002-1-i<N->F.length<x.ls.length->(∀xs∈F,xs.length<=1000)->zs.length<=1000->i<=zs.length->0<=left->left<=70000000->x.D J A out W (F++[zs]) ->
  (out++Yl x.h x.ls F (zs.take i) (zs.length-i) left) <+: S ->
  Calls prog 116 (x.argN F.length i left).toArray W (x.End J Jx S A (out++Yl x.h x.ls F (zs.take i) (zs.length-i) left) (λG=> ∃ys,G=F++[ys]/\ys.length=zs.length/\ys.take i=zs.take i))
section
variable {x:DCx} {J Jx:(nP)->List SV->wD->Prop} {S:List SV}
def DCx.Ok.rest (G:x.Ok) (c:Nat):0<=(Bx x.h (x.ls.drop c)).1/\(Bx x.h (x.ls.drop c)).1<=33000/\(Bx x.h (x.ls.drop c)).2<=66033000/\(Bx x.h (x.ls.drop c)).1<=(Bx x.h (x.ls.drop c)).2:=by
 have N:=P1 G.h (x.ls.drop c) (λp M=>G.ls p (List.mem_of_mem_drop M));have O:(x.ls.drop c).length<=33:=by rw [kV];have:=G.n.2;omega
 omega
def DCx.K.rowR (h:x.K w) {c:Nat} (M:c<=x.ls.length):Row w ⟨x.gr,0+c*2,none⟩ [.int .i64 (Bx x.h (x.ls.drop c)).1,.int .i64 (Bx x.h (x.ls.drop c)).2]:=by
 obtain ⟨cs,N,G⟩:=h.rs.row (E7 (m:=0) (j:=c) M);rw [AG (iT _)] at G;obtain rfl:cs=_:=G;exact N
def DCx.L.at {A:nP} {W:wD} {F:List (List Int)} {zs:List Int} (h:x.L A W (F++[zs])):∃b,Row W ⟨x.g,0+F.length*1,none⟩ [.slice (some ⟨b,0,none⟩) zs.length zs.length]/\ArrS Da 0 0 W b zs/\A b /\ ¬x.fix b/\b≠x.g /\
 ∀(W':wD) (ys:List Int),Fr (· = b) W W'->ArrS Da 0 0 W' b ys->ys.length=zs.length->x.L A W' (F++[ys]):=by
 obtain ⟨U,cs,V,h2,X,Y⟩:=h;obtain ⟨Z,g2,g3,g4,N⟩:=X F.length zs AN;obtain ⟨us,hr,hu,-⟩:=V.row Z;subst hu;refine ⟨U F.length,hr,g2,g3,g4,N,λW' ys f hy hl=>⟨U,cs,V.fr f (λk O=>⟨Ab,λe=>N (O.symm.trans e)⟩),h2,λi xs G=>?_,λi j G hj=>Y i j (by simpa using G) (by simpa using hj)⟩⟩;by_cases M:i<F.length
 . rw [iN M] at G;obtain ⟨k1,k2,k3,k4,k5⟩:=X i xs (by rw [iN M];exact G);refine ⟨k1,k2.fr f (λk O=>⟨Ab,λe=>?_⟩),k3,k4,k5⟩;have:=Y i F.length (by simp;omega) AN (e.symm.trans O);omega
 . obtain rfl:i=F.length:=by
    have:=(List.getElem?_eq_some_iff.1 G).1;simp at this;omega
   simp only [List.getElem?_concat_length,iL] at G;subst G;exact ⟨by rw [hl];exact Z,hy,g3,g4,N⟩
def DCx.L.snoc {A N:nP} {F:List (List Int)} {zs:List Int} {b:Nat} {h:Nat->Nat} {cs:lV} (Y:cs.length=x.ls.length)
 (V:∀i xs,F[i]? = some xs->cs[i]? = some (.slice (some ⟨h i,0,none⟩) xs.length xs.length)/\ArrS Da 0 0 w (h i) xs/\A (h i) /\ ¬x.fix (h i)/\h i≠x.g)
 (Z:∀i j,i<F.length->j<F.length->h i=h j->i=j) (hF:F.length<x.ls.length) (f:Fr (· = x.g) w w') (O:∀k,A k->N k) (hb:N b /\ ¬x.fix b/\b≠x.g) (hn:¬A b) (hz:ArrS Da 0 0 w' b zs)
 (hs:ArrS Ik 0 0 w' x.g (cs.set F.length (.slice (some ⟨b,0,none⟩) zs.length zs.length))):x.L N w' (F++[zs]):=by
 have M:∀i,i<F.length->h i≠b:=λi G e=>hn (e▸(V i _ (iE G)).2.2.1)
 refine ⟨λi=>if i=F.length then b else h i,_,hs,by simp [Y],λi xs G=>?_,λi j G hj=>?_⟩
 . by_cases U:i<F.length
   . rw [iN U] at G;obtain ⟨k1,k2,k3,k4,X⟩:=V i xs G;simp only [At (show i≠F.length by omega)];rw [jy Ab];exact ⟨k1,k2.fr f (λk hk=>⟨Ab,λe=>X (e.symm.trans hk)⟩),O _ k3,k4,X⟩
   . obtain rfl:i=F.length:=by
      have:=(List.getElem?_eq_some_iff.1 G).1;simp at this;omega
     simp only [List.getElem?_concat_length,iL] at G;subst G;simp only [if_true];rw [jS Ab];exact ⟨rfl,hz,hb⟩
 . simp only [iX,iM,ji] at G hj;dsimp only;split<;>split
   . omega
   . intro e;exact absurd e.symm (M j Ab)
   . intro e;exact absurd e (M i Ab)
   . exact Z i j Ab Ab
def DCx.D.ext {A:nP} {out:List SV} {F:List (List Int)} (G:EM x.c J) (h:x.D J A out w F) (X:Ext w w'):x.D J (nu A w w') out w' F:=
 h.grow G (mG X) (h.k.fr (T:=λ_=>False) (mG X) (λ_ _ h=>h)) ((h.l.fr (T:=λ_=>False) (mG X) h.ag (λ_ _ h=>h)).more (λ_ h=>iG h))
end
set_option maxHeartbeats 8000000 in
def aK (x:DCx) (hx:x.Ok) (J Jx:(nP)->List SV->wD->Prop) (hJ:EM x.c J) (S:List SV) (N:Nat) (HL:x.CL J Jx S N) (HN:x.CN J Jx S N):x.CN J Jx S (N+1):=by
 intro F zs i A out W left hm hF ao bc hi h0 h1 M O;obtain ⟨b,hr,Y,hb,ag,ap,Z⟩:=M.l.at;have s0:=M.k.s0;have aq:(F++[zs]).length=F.length+1:=by simp
 by_cases hk:i=zs.length
 . subst hk;have i0:=M.k.i0;rw [kf,iZ,Ym] at O ⊢;have HX:=iF (HL (F++[zs]) A out W left (by rw [aq];omega) (by rw [aq];omega) (λxs bd=>by
    rcases jD.1 bd with h|h
    . exact ao xs h
    . rw [i8.1 h];exact bc) h0 h1 M O)
   rw [aq] at HX;have hn:=hx.n;clear M O Z ag hb ap HL HN hJ ao Y;refine Ad func116 ntmps116 rfl rfl ?_;refine eK ?_;refine Aw (A9 (fi:=[]) (ca:=x.capI) AU rfl rfl HX.out (λ_ _ h=>h.ret)) rfl ?_ aFh;rintro _ w5 ⟨q1,bw,⟨⟩,h3,h4⟩;refine kR ?_;exact ⟨_,_,rfl,h3,h4.imp (λ⟨e,F',e2,hd⟩=>⟨e,F',⟨zs,e2,rfl,by rw [iZ]⟩,hd⟩) id⟩
 . obtain ⟨k,be⟩:∃k,zs.length-i=k+1:=⟨zs.length-i-1,Ab⟩
   have ek:(zs.length:Int)-1-i=k:=by omega
   rw [be] at O ⊢;rw [Yo] at O ⊢;have ae:=M.k.h0;have r0:=M.k.r0;have ry:=M.k.rowR (c:=F.length+1) Ab;obtain ⟨r1,r2,r3,r4⟩:=hx.rest (F.length+1);have hh:=hx.h;have hn:=hx.n;have ar:=iF (λ(m:Nat)=>fO (h:=x.h) (r:=Bx x.h (x.ls.drop (F.length+1))) (k:=k) (left:=left) (m:=m) r1 Ab);obtain ⟨q,hq⟩:∃q,(k:Int)*x.h=q:=⟨_,rfl⟩
   have bf:0<=q/\q<=2001000:=by
    rw [<-hq];have m1:(k:Int)*x.h<=1000*2001:=Int.mul_le_mul Ab hh.2 Ab Ab;have m2:0<=(k:Int)*x.h:=Int.mul_nonneg Ab Ab;omega
   have ay:jP .i64 (((zs.length:Int)-1-i)*x.h)=q:=by rw [ek,hq];exact iO _ Ab
   have az:Rr x.h (Bx x.h (x.ls.drop (F.length+1))) k left=max 0 (left-1-q-(Bx x.h (x.ls.drop (F.length+1))).2):=by unfold Rr;rw [hq]
   have a0:bQ x.h (Bx x.h (x.ls.drop (F.length+1))) k left=min (x.h-1) (left-1-k-(Bx x.h (x.ls.drop (F.length+1))).1):=rfl;have HP:=iF O;have HD:=iF M;generalize Rr x.h (Bx x.h (x.ls.drop (F.length+1))) k left=V at *;generalize bQ x.h (Bx x.h (x.ls.drop (F.length+1))) k left=hi at *;generalize Bx x.h (x.ls.drop (F.length+1))=r at *;obtain ⟨ra,rb⟩:=r;simp only at r1 r2 r3 r4 az a0 ry;have au:=iF HN;clear O M Z ag hb ap HL HN Y hq;have X:=Ne W;refine Ad func116 ntmps116 rfl rfl ?_;refine eK ?_;refine C1 (AL rfl rfl (iO _ Ab)) (C1 Mv (C1 (AL rfl rfl (iO _ Ab)) ?_));refine eK ?_;refine Aq (λwz=>Ext W wz) 12 (.pure 0 (.pure 1 (.pure 2 (.pure 3 (.pure 4 (.pure 5 (.pure 6 (.pure 7 (.pure 8 (.pure 9 (.pure 10 (.pure 11 .tail)))))))))))) mixed AU (Aa Ag) ?_;intro av a1 _;have ah:(λwz=>Ext W wz) av:=a1;simp only at ah;have aa:=hr;have af:=s0;have U:=ae;have ai:=r0;have ab:=ry;revert hr s0 ae r0 ry X;refine eY a1 ?_;intro bx hr s0 ae r0 ry X;refine ⟨ah,?_⟩;refine Tq rfl Mv (Tq rfl (AL rfl rfl (iO _ Ab)) (Tq rfl Mv (Tq rfl (Ap Ac rfl rfl rfl (λwz Y=>mM (mN U Y) rfl)) (Tq rfl (Io rfl rfl ay) (Tq rfl (AL rfl rfl (iO _ Ab)) ?_)))));refine eT ?_;refine Tq rfl (Dr ab) ?_;clear ah aa af U ai ab;refine Ar rfl (C1 (AL rfl rfl (iO _ Ab)) (C1 (TQ (m:=V) rfl rfl Ab) ?_));refine eK ?_;refine Aq (λwz=>Ext av wz) 13 (.pure 0 (.pure 1 (.pure 2 (.pure 3 (.pure 4 (.pure 5 (.pure 6 (.pure 7 (.pure 8 (.pure 9 (.pure 10 (.pure 11 (.pure 12 .tail))))))))))))) mixed AU (Aa Ag) ?_;intro bg a2 _;have aj:(λwz=>Ext av wz) bg:=a2;simp only at aj;have aa:=hr;have af:=s0;have U:=ae
   have ai:=r0;have ab:=ry;revert hr s0 ae r0 ry X;refine eY a2 ?_;intro bz hr s0 ae r0 ry X;refine ⟨aj,?_⟩;refine Tq rfl (Ap Ac rfl rfl rfl (λwz Y=>mM (mN U Y) rfl)) (Tq rfl (AL rfl rfl (iO _ Ab)) (Tq rfl Mv (Tq rfl (AL rfl rfl (iO _ Ab)) (Tq rfl Mv (Tq rfl (AL rfl rfl (iO _ Ab)) ?_)))));refine eT ?_;refine Tq rfl (Ap Ac rfl rfl rfl (λwz Y=>mO (mJ ab Y) rfl)) (Tq rfl (AL rfl rfl (iO _ Ab)) ?_);clear aj aa af U ai ab;refine Ar rfl (C1 (PO (m:=hi) rfl rfl Ab) ?_);refine eK ?_;refine C1 (AL rfl rfl (iO _ Ab)) (C1 V7 (C1 Mv (cT ?_)));have HD:=HD.out.ext hJ X;have br:0<=V:=by omega
   clear ae r0 ry s0 hr ay az a0 bf;refine Au ?_;refine AP (ι:=Nat×(nP)×List Int) (λy=>[(0,.int .i64 F.length),(1,.int .i64 i),(2,.int .i64 left),(3,pt x.bS),(7,pt x.bN),(13,.int .i64 V),(67,.int .i64 (hi-V+1)),(68,.int .i64 y.1)])
    (λy w'=>y.1<=(hi-V+1).toNat/\y.2.2.length=zs.length/\y.2.2.take i=zs.take i/\(∀k,A k->y.2.1 k)/\x.D J y.2.1 (out++(jQ y.1).flatMap λ(m:Nat)=>Yl x.h x.ls F (zs.take i++[Cx (V+m)]) k (left-1-V-m)) w' (F++[y.2.2]))
    (λy=>(hi-V+1).toNat-y.1) (0,_,zs) sB ⟨iT _,rfl,rfl,λ_ h=>iG h,by rw [List.range_zero,List.flatMap_nil,lE];exact HD⟩ ?_
   clear HD X;rintro ⟨m,B,ys⟩ w7 ⟨bh,al,aw,am,M⟩;simp only at bh al aw am M;refine nq (m:=[(0,.int .i64 F.length),(1,.int .i64 i),(2,.int .i64 left),(3,pt x.bS),(7,pt x.bN),(13,.int .i64 V),(67,.int .i64 (hi-V+1)),(68,.int .i64 m)]) ?_ sB;by_cases bi:m<(hi-V+1).toNat
   . obtain ⟨b,hr,Y,hb,ag,ap,Z⟩:=M.l.at;have b0:=ar.out m Ab;have s0:=M.k.s0;have n0:=M.k.n0;have b1:=(M.lt b hb).2;have HD:=iF M;have HU:=iF Z;have HF:=iF ag;rw [al] at hr;have bj:i<ys.length:=by omega
     clear M Z ag;have X7:=mI (λk=>k=b) w7;refine eK ?_;refine Aq (λwz=>Ext w7 wz) 9 (.pure 0 (.pure 1 (.pure 2 (.pure 3 (.pure 4 (.pure 5 (.pure 6 (.pure 7 (.fork 8 .tail .none))))))))) mixed AU (Aa (Af (Aa (Aa (Af (Aa Ag)))))) ?_;intro bk a3 _;have ac:(λwz=>Ext w7 wz) bk:=a3;simp only at ac;have aa:=hr;have bs:=Y;have af:=s0;have bt:=n0;revert hr Y s0 n0 X7;refine eY a3 ?_;intro b2 hr Y s0 n0 X7;refine ⟨ac,?_⟩;refine eT ?_;refine Tq rfl (Ap Ac rfl rfl rfl (λwz Y=>mO (mJ aa Y) rfl)) ?_;refine eT ?_;refine tC rfl rfl (Yj (V+m) Ab _) ?_;rintro _ b3 ⟨⟨⟩,bl⟩;revert ac hr Y s0 n0 X7;refine eY bl ?_;intro b4 ac hr Y s0 n0 X7;refine ⟨ac,?_⟩;refine Ar rfl (C1 Pi (A7 (Ci (sh:=Da) (j:=i) (z:=Cx (V+m)) (us:=[_]) Ac rfl rfl rfl rfl rfl rfl Ae bj (iH Ab) rfl) (BJ ?_)));rintro _ ad ⟨b5,ak,bu⟩;have bv:=ak.size;have hr:=mT hr ak (by simp only;omega);clear Y s0 n0;have X7:=X7.fr ak Ab;refine cT ?_;have b6:=X7.size;have M:=HD.out;have a4:∀k,B k->nu B w7 ad k:=λ_ h=>iG h
     have ax:x.D J (nu B w7 ad) _ ad (F++[ys.set i (Cx (V+m))]):=M.grow hJ (X7.weaken λk (e:k=b)=>by subst e;exact hb) (M.k.fr X7 (λk hk e=>HF.out (e▸hk))) ((HU.out ad _ X7 Ae AN).more a4);have a5:(ys.set i (Cx (V+m))).length=zs.length:=by simp [al]
     have a6:(ys.set i (Cx (V+m))).length-(i+1)=k:=by omega
     have a7:(ys.set i (Cx (V+m))).take (i+1)=zs.take i++[Cx (V+m)]:=by
      rw [iI (by rw [a5];omega),List.getElem_set_self,List.take_set_of_le (iW _),aw]
     have HX:=iF (au.out F (ys.set i (Cx (V+m))) (i+1) _ _ ad (left-1-V-m) Ab hF ao Ab Ab Ab Ab ax (by rw [a7,a6];exact K3 HP.out bi));rw [a7,a6,JD] at HX;have n0:=ax.k.n0;clear M HU HF ax X7 a4;refine eK ?_;refine C1 (AL rfl rfl (iO _ Ab)) (C1 Mv (C1 (AL rfl rfl (iO _ Ab)) (C1 Mv (C1 (AL rfl rfl (iO _ Ab)) ?_))));refine Aw (A9 (fi:=[]) (ca:=x.capN) AU rfl rfl HX.out (λ_ _ h=>h.ret)) rfl ?_ aFh;rintro _ b7 ⟨b8,an,⟨⟩,a8,bm⟩;refine C1 Pt (cT ?_);have a9:∀k,A k->an k:=λk h=>a8 k (iG (am k h))
     obtain ⟨rfl,G,⟨us,rfl,ba,bn⟩,bo⟩|⟨rfl,bp,bq⟩:=bm
     . clear a8 am ar HP HX au;rw [a5] at ba;have bb:us.take i=zs.take i:=by
        have:=congrArg (List.take i) bn;rw [List.take_take,lP (Nat.le_succ i),List.take_left' (by rw [jp];omega)] at this;exact this
       refine Ba rfl (Ao (Ah (Ai (Al (C1 V7 (C1 Mv (Ak ?_)))))));exact AA (m+1,an,us) sB ⟨by simp only;omega,ba,bb,a9,bo⟩ (by simp only;omega)
     . refine kR ?_;exact ⟨false,_,rfl,a9,iH ⟨rfl,bp,bq⟩⟩
   . obtain rfl:m=(hi-V+1).toNat:=by omega
     clear HP ar au;refine kR ?_;exact ⟨true,B,rfl,am,iG ⟨rfl,_,⟨ys,rfl,al,aw⟩,M⟩⟩
def dQ {n h M:Int} (N:1<=h) (O : -M<=n) (U:n<=M) : -M<=n.tdiv h/\n.tdiv h<=M:=by
 rcases Int.le_total 0 n with G|G
 . rw [Int.tdiv_eq_ediv_of_nonneg G];have a:=Int.ediv_nonneg G (show 0<=h by omega);have b:=Int.ediv_le_self h G;omega
 . have e:n.tdiv h = -((-n)/h):=by
    rw [<-Int.tdiv_eq_ediv_of_nonneg (show 0 <= -n by omega),Int.neg_tdiv,Int.neg_neg]
   rw [e];have a:=Int.ediv_nonneg (show 0 <= -n by omega) (show 0<=h by omega);have b:=Int.ediv_le_self h (show 0 <= -n by omega);omega
set_option maxHeartbeats 8000000 in
def aL (x:DCx) (hx:x.Ok) (J Jx:(Nat->Prop)->List SV->World->Prop) (hJ:EM x.c J) (S:List SV)
 (hY:∀A pre s vs W1,(∀k,A k->x.c<=k/\k<W1.heap.size)->J A pre W1->P2 x.c W1 vs s->(pre++[s]) <+: S->YieldAt (WF none) 0 Tryz.prog x.y vs.toArray W1 (SRes x.Rt J Jx A (pre++[s]) W1))
 (N:Nat) (HN:x.CN J Jx S N):x.CL J Jx S (N+1):=by
 intro F A out W left hm hF hFl h0 h1 hD hpre
 by_cases hc:F.length=x.ls.length
 . rw [aJ hc] at hpre ⊢
   exact Ys x hx J Jx hJ S hY F A out W left hc hFl hD hpre
 . have hlt:F.length<x.ls.length:=by omega
   have hp:x.ls[F.length]? = some x.ls[F.length]:=iE hlt;rw [Yn hp] at hpre ⊢;have hpb:=hx.ls _ (iS hlt);have h0':=hD.k.h0;have r0:=hD.k.r0;have s0:=hD.k.s0;have l0:=hD.k.l0;have ry:=hD.k.rowR (c:=F.length+1) (by omega);obtain ⟨kb,ko,hla,-,hk⟩:=m5 hD.k.ld (by omega);have rx:Row W ⟨kb,ko+F.length*2,none⟩ [.int .i64 x.ls[F.length].1,.int .i64 x.ls[F.length].2]:=hk F.length _ hp;rw [hla] at l0;obtain ⟨r1,r2,r3,r4⟩:=hx.rest (F.length+1);have hh:=hx.h;have hn:=hx.n;have HP:=iF hpre;have HD:=iF hD;have HL2:=iF HN;have hgf:=hx.g;have HR:=iF hx.rt
   unfold gD gQ eR fH at HP ⊢
   clear hpre hD HN hk hY hx hla hc
   generalize x.ls[F.length]=p at *
   generalize Bx x.h (x.ls.drop (F.length+1))=r at *
   obtain ⟨ra,rb⟩:=r;obtain ⟨pa,pb⟩:=p;simp only at r1 r2 r3 r4 rx ry hpb HP ⊢;obtain ⟨q,hq⟩:∃q,(left-rb+x.h-1).tdiv x.h=q:=⟨_,rfl⟩
   have hqb : -200000000<=q/\q<=200000000:=by
    rw [<-hq]
    exact dQ hh.1 (by omega) (by omega)
   have hqw:jP .i64 ((left-rb+x.h-1).tdiv x.h)=q:=by rw [hq];exact iO _ (by omega)
   have V:x.h≠0:=by omega
   rw [hq] at HP ⊢;obtain ⟨lo,hlo⟩:∃lo,max pa q=lo:=⟨_,rfl⟩;obtain ⟨hi,hhi⟩:∃hi,min pb (left-ra)=hi:=⟨_,rfl⟩;rw [hlo,hhi] at HP ⊢;have X:=Ne W;refine Ad Tryz.func115 Tryz.ntmps115 rfl rfl ?_
   focus
    refine cS (C1 Pa (cT (Aj (cS (C1 Mv (C1 (Pl s0) (C1 Pz (C1 V1 (cT (DA (Ao ?_)))))))))));refine Ai (Aj ?_);refine Aq (λwz=>Ext W wz) 18 (.pure 0 (.pure 1 (.pure 2 (.pure 3 (.pure 4 (.pure 5 (.pure 6 (.pure 7 (.pure 8 (.pure 9 (.pure 10 (.pure 11 (.pure 12 (.pure 13 (.pure 14 (.pure 15 (.pure 16 (.pure 17 .tail)))))))))))))))))) mixed (by kernel_rfl) (Aa Ag) ?_;intro w1 x2 _;have O:(λwz=>Ext W wz) w1:=x2;simp only at O;have a:=h0';have f:=r0;have b:=s0;have i:=l0;have o:=ry;have t:=rx;replace h0':=mN h0' x2;replace r0:=r0.ext x2;replace s0:=s0.ext x2;replace l0:=l0.ext x2;replace ry:=ry.ext x2;replace rx:=rx.ext x2;replace X:=X.ext x2;clear x2;refine ⟨O,?_⟩;refine Tq rfl (Db i) (Tq rfl Mv (Tq rfl Pi (Tq rfl Pg (Tq rfl (Ap Ac rfl rfl rfl (λwz hz=>mO (mJ t hz) rfl)) (Tq rfl Mv (Tq rfl (Db f) (Tq rfl Mv (Tq rfl V7 (Tq rfl Pi (Tq rfl Pf (Tq rfl (Dr o) ?_)))))))))));refine Tq rfl (AL rfl rfl (iO _ (by omega))) ?_;refine Tq rfl (Ap Ac rfl rfl rfl (λwz hz=>mM (mN a hz) rfl)) (Tq rfl V7 ?_);refine Tq rfl (AL rfl rfl (iO _ (by omega))) ?_;refine Tq rfl (Ap Ac rfl rfl rfl (λwz hz=>mM (mN a hz) rfl)) (Tq rfl (Ip rfl rfl V hqw) ?_);clear O a f b i o t;refine Ar rfl (C1 (TQ (m:=lo) rfl rfl hlo) (C1 Pa (cT (Aj ?_))))
    refine Aq (λwz=>Ext w1 wz) 13 (.pure 0 (.pure 1 (.pure 2 (.pure 3 (.pure 4 (.pure 5 (.pure 6 (.pure 7 (.pure 8 (.pure 9 (.pure 10 (.pure 11 (.pure 12 .tail))))))))))))) mixed (by kernel_rfl) (Aa Ag) ?_;intro w5 x6 _;have Q:(λwz=>Ext w1 wz) w5:=x6;simp only at Q;have a:=h0';have f:=r0;have b:=s0;have i:=l0;have o:=ry;have t:=rx;replace h0':=mN h0' x6;replace r0:=r0.ext x6;replace s0:=s0.ext x6;replace l0:=l0.ext x6;replace ry:=ry.ext x6;replace rx:=rx.ext x6;replace X:=X.ext x6;clear x6;refine ⟨Q,?_⟩;refine Tq rfl (Db i) (Tq rfl Mv (Tq rfl Pi (Tq rfl Pf (Tq rfl (Dr t) (Tq rfl Mv (Tq rfl (Db f) (Tq rfl Mv (Tq rfl V7 (Tq rfl Pi (Tq rfl Pg (Tq rfl (Ap Ac rfl rfl rfl (λwz hz=>mO (mJ o hz) rfl)) ?_)))))))))));refine Tq rfl (AL rfl rfl (iO _ (by omega))) ?_;clear Q a f b i o t;refine Ar rfl (C1 (PO (m:=hi) rfl rfl hhi) (C1 Pa (cT (Aj (cS (C1 Mv (C1 Mv ?_)))))));refine C1 (AL rfl rfl (iO _ (by omega))) ?_;refine C1 V7 (C1 Mv (cT ?_));rotate_left 1
   have hD:=HD.out.ext hJ X
   have ac:pa<=lo:=by omega
   have ad:hi<=pb:=by omega
   clear HD X rx ry r0 h0' s0 l0 hqw hq hlo hhi hqb;refine Au ?_;refine AP (ι:=Nat×(Nat->Prop)) (λy=>[(0,.int .i64 F.length),(1,.int .i64 left),(2,.pointer (some ⟨x.bS,0,none⟩)),(7,.pointer (some ⟨x.bN,0,none⟩)),(13,.int .i64 lo),(71,.int .i64 (hi-lo+1)),(72,.int .i64 y.1)])
    (λy w'=>y.1<=(hi-lo+1).toNat/\(∀k,A k->y.2 k)/\x.D J y.2 (out++(jQ y.1).flatMap λ(m:Nat)=>Yl x.h x.ls F [] (lo+m).toNat left) w' F)
    (λy=>(hi-lo+1).toNat-y.1) (0,_) (by (refine An rfl ?_;refine An rfl ?_;refine An rfl ?_;refine An rfl ?_;refine An rfl ?_;refine An rfl ?_;refine An rfl ?_;exact BL)) ⟨iT _,λ_ h=>iG h,by rw [List.range_zero,List.flatMap_nil,lE];exact hD⟩ ?_
   clear hD;rintro ⟨m,B⟩ w7 ⟨Y,hAB,hD⟩;simp only at Y hAB hD;refine nq (m:=[(0,.int .i64 F.length),(1,.int .i64 left),(2,.pointer (some ⟨x.bS,0,none⟩)),(7,.pointer (some ⟨x.bN,0,none⟩)),(13,.int .i64 lo),(71,.int .i64 (hi-lo+1)),(72,.int .i64 m)]) ?_ (by (refine An rfl ?_;refine An rfl ?_;refine An rfl ?_;refine An rfl ?_;refine An rfl ?_;refine An rfl ?_;refine An rfl ?_;exact BL))
   by_cases T:m<(hi-lo+1).toNat
   . obtain ⟨bl,cs,hcs,hcl,h3,h4⟩:=hD.l;obtain ⟨k,hk⟩:∃k:Nat,lo+m=k:=⟨(lo+m).toNat,by omega⟩
     have ah:k<=1000:=by omega
     have hkn:(lo+m).toNat=k:=by omega
     have hadd:jP .i64 (lo+m)=(k:Int):=by rw [hk];exact iO _ (by omega)
     have s0:=hD.k.s0;have hgl:=(hD.lt _ hD.ag).2;have HD:=iF hD;have H3:=iF h3;have H4:=iF h4
     have hcF:F.length<cs.length:=by omega
     clear hD h3 h4;have X7:=mI (λk=>k=x.g) w7
     focus
      refine cS (C1 V3 (cT (Aj (TS (Ao (Ai (Aj (Au (cS (C1 Mv (C1 Pa ?_)))))))))));refine cT (Aj ?_);refine Aq (λwz=>Ext w7 wz) 6 (.pure 0 (.pure 1 (.pure 2 (.pure 3 (.pure 4 (.fork 5 .tail .none)))))) mixed (by kernel_rfl) (Aa (Af (Aa (Aa (Af (Aa Ag)))))) ?_;intro Z w _;have d:(λwz=>Ext w7 wz) Z:=w;simp only at d;have R:=hcs;have b:=s0;have ai:=w.size;replace hcs:=hcs.ext w;replace s0:=s0.ext w;replace X7:=X7.ext w;clear w;refine ⟨d,?_⟩;refine Tq rfl (Db b) (Tq rfl Mv (Tq rfl Mv (Tq rfl Mv (Tq rfl (LR (c:=(k:Int)) rfl rfl hadd) ?_))));refine AC rfl (Dq (sh:=Da) (C:=0) (D:=0) (N:=k) (z:=0) Ac CC rfl rfl rfl rfl (by kernel_rfl) rfl rfl (by omega) (λ_ _=>rfl)) rfl ?_ (λ_ h=>h) Ay;rintro _ ae ⟨aj,rfl,I,ak,al,u⟩;replace d:=d.ext u;replace hcs:=hcs.ext u;replace s0:=s0.ext u;replace X7:=X7.ext u;clear u;refine ⟨d,?_⟩;clear R b d;refine Ar rfl (C1 Pi ?_);refine A7 (Ci (sh:=Ik) (j:=F.length) (us:=[_]) Ac rfl rfl rfl rfl rfl rfl (by assumption) hcF (iH (by omega)) ⟨rfl,rfl⟩) ?_;refine BJ ?_;rintro _ v ⟨M,E,af⟩;replace I:=I.fr E (by omega);clear hcs s0;replace X7:=X7.fr E (by omega);clear E;refine cT ?_
      rotate_left 1
     have am:=X7.size;have hD:=HD.out;have hsz:=hD.sz
     have hfx:∀k,x.fix k->k<w7.heap.size:=λk hk=>(hD.own k hk).elim (λh=>by have:=HR.out k h;omega) (λh=>(hD.lt k h).2)
     have hAg:∀k,B k->nu B w7 v k:=λ_ h=>iG h
     have hD8:x.D J (nu B w7 v) _ v (F++[jn k 0]):=hD.grow hJ (X7.weaken λk (e:k=x.g)=>by subst e;exact hD.ag) (hD.k.fr X7 (λk hk (e:k=x.g)=>hgf (e▸hk)))
      (DCx.L.snoc hcl H3.out H4.out hlt X7 hAg ⟨iH ⟨by omega,by omega⟩,λh=>by have:=hfx _ h;omega,by omega⟩ (λh=>by have:=(hD.lt _ h).2;omega) I (by rw [List.length_replicate];exact M))
     have n0:=hD8.k.n0;have HX:=iF (HL2.out F (jn k 0) 0 _ _ v left (by omega) hlt hFl (by simp;omega) (by omega) h0 h1 hD8 (by rw [kZ,List.length_replicate,kD,<-hkn];exact K3 HP.out T));rw [kZ,List.length_replicate,kD,<-hkn,JD] at HX;clear hD HD H3 H4 hD8 X7 hAg hfx I M HR
     focus
      refine cS (C1 (Pl n0) (C1 Mv (C1 Mv ?_)));refine Aw (A9 (fi:=[]) (ca:=x.capN) (by kernel_rfl) rfl rfl HX.out (λ_ _ h=>h.ret)) rfl ?_ (λ_ h=>h);rintro _ aa ⟨an,A'b2,⟨⟩,U,ab⟩;refine C1 Pt (cT ?_);rotate_left 1
     have hBC:∀k,A k->A'b2 k:=λk h=>U k (iG (hAB k h))
     obtain ⟨rfl,G,⟨us,rfl,-,-⟩,hD9⟩|⟨rfl,hAc,hpr⟩:=ab
     . have hD9:x.D J A'b2 _ aa F:=⟨hD9.k,hD9.l.less,hD9.j,hD9.lt,hD9.own,hD9.ag,hD9.sz⟩;clear U hAB HP HX HL2
       focus
        refine Ba rfl (Ao (Ah (Ai (Al (C1 V7 (C1 Mv (Ak ?_)))))));rotate_left 1
       exact AA (m+1,A'b2) (by (refine An rfl ?_;refine An rfl ?_;refine An rfl ?_;refine An rfl ?_;refine An rfl ?_;refine An rfl ?_;refine An rfl ?_;exact BL)) ⟨by simp only;omega,hBC,hD9⟩ (by simp only;omega)
     . focus
        refine BP rfl (cS (C1 Pa (cT (AR (AJ (As (As (AJ (As (AT rfl rfl ?_))))))))));rotate_left 1
       exact ⟨false,_,rfl,hBC,iH ⟨rfl,hAc,hpr⟩⟩
   . obtain rfl:m=(hi-lo+1).toNat:=by omega
     clear HP HL2
     focus
      refine cS (C1 V3 (cT (Aj (DA (Ca (AB (AB (A0 (Ai (cS (C1 Pa ?_)))))))))));refine cT (AR (AT rfl rfl ?_));rotate_left 1
     exact ⟨true,B,rfl,hAB,iG ⟨rfl,_,rfl,hD⟩⟩
def R7 (x:DCx) (M:x.Ok) (J Jx:(nP)->List SV->wD->Prop) (O:EM x.c J) (S:List SV)
 (U:∀A pre s vs G,(∀k,A k->x.c<=k/\k<G.heap.size)->J A pre G->P2 x.c G vs s->(pre++[s]) <+: S->YieldAt (WF none) 0 prog x.y vs.toArray G (SRes x.Rt J Jx A (pre++[s]) G)) :
 ∀N,x.CL J Jx S N/\x.CN J Jx S N
 | 0=>⟨λ_ _ _ _ _ h=>absurd h (Nat.not_lt_zero _),λ_ _ _ _ _ _ _ h=>absurd h (Nat.not_lt_zero _)⟩
 | N+1=>
  have ⟨h1,h2⟩:=R7 x M J Jx O S U N
  ⟨aL x M J Jx O S U N h2,aK x M J Jx O S N h1 h2⟩
def NA {g:Operand} {p:Tmp} {gf X:Code} {lb:lV} {rep:Nat->wD->lV->α->Prop} {Rt:nP} {Z Fin:List α->Prop}
 (hp:jg p n=true) (hg:ev l g=some (.func (.func G) #[] lb.toArray)) (eg:B0 P G=true) (ac:J0 P G lb rep Rt Z Fin w) (ab:∀c W vs x,rep c W vs x -> ∃u,vs=[u]) (ad:∀k,Rt k->k<w.heap.size)
 (J Jx:(nP)->List α->wD->Prop) (hJ:EM w.heap.size J) (ae:EM w.heap.size Jx) (h0:J (λ_=>False) [] w)
 (U:∀r A pre x u W,(∀k,A k->w.heap.size<=k/\k<W.heap.size)->A (w.heap.size+1)->J A pre W->rep (w.heap.size+2) W [u] x->Z (pre++[x]) ->
  CR P n (some r) gf (Exit.then (Iv P (some r) (λk=>A k\/Rt k) (w.heap.size+1) X (λW₂=>Eo (λk=>A k\/Rt k) J Jx A (pre++[x]) W₂) W) (λ_ _ _=>False)) ((p,u)::l) W)
 (M:∀A S W,Fin S->(∀k,A k->w.heap.size<=k)->J A S W->A w.heap.size->W.heap[w.heap.size]? = some (.deferred (some []))->J7 (G1 w.heap.size) n Q .normal l W)
 (N:∀A pre W,(∀k,A k->w.heap.size<=k)->Z pre->Jx A pre W->A w.heap.size->W.heap[w.heap.size]? = some (.deferred (some []))->J7 (G1 w.heap.size) n Q .ret l W) :
 CW P n (.rangeFunc g #[p] gf X) Q l w:=by
 refine T6 λa V=>?_
 refine Lm (V.ev hg) eg ac (λc W vs x h=>by obtain ⟨u,rfl⟩:=ab c W vs x h;rfl) ad J Jx hJ ae h0 (λr A pre x vs W hA af hj Y O=>?_) (λA S W hS hA hj aa hk=>?_) (λA pre W hA O hj aa hk=>?_)
 . obtain ⟨u,rfl⟩:=ab _ W vs x Y;refine U r A pre x u W hA af hj Y O _ ?_;have e1:Env n l { a with defers:=[] }:=⟨V.size,rfl,V.has⟩
   simpa [Act.put] using e1.put hp u
 . unfold J7 at M;exact M A S W hS hA hj aa hk _ ⟨⟨V.size,rfl,V.has⟩,by rw [V.defers];rfl⟩
 . unfold J7 at N;exact N A pre W hA O hj aa hk _ ⟨⟨V.size,rfl,V.has⟩,by rw [V.defers];rfl⟩
def Wh {g:Operand} {p:Tmp} {X N:Code} {lb:lV} {rep:Nat->wD->lV->α->Prop} {V:nP} {S:List α}
 (hp:jg p n=true) (hg:ev l g=some (.func (.func G) #[] lb.toArray)) (eg:B0 P G=true) (Y:IterOk P G lb rep V S w) (Z:∀c W vs x,rep c W vs x -> ∃u,vs=[u]) (aa:∀k,V k->k<w.heap.size)
 (J Jx:(nP)->List α->wD->Prop) (hJ:EM w.heap.size J) (ab:EM w.heap.size Jx) (h0:J (λ_=>False) [] w)
 (M:∀r A pre x u W,(∀k,A k->w.heap.size<=k/\k<W.heap.size)->A (w.heap.size+1)->J A pre W->rep (w.heap.size+2) W [u] x->(pre++[x]) <+: S ->
  CR P n (some r) X (Exit.then (Iv P (some r) (λk=>A k\/V k) (w.heap.size+1) N (λW₂=>Eo (λk=>A k\/V k) J Jx A (pre++[x]) W₂) W) (λ_ _ _=>False)) ((p,u)::l) W)
 (O:∀A W,(∀k,A k->w.heap.size<=k)->J A S W->A w.heap.size->W.heap[w.heap.size]? = some (.deferred (some []))->J7 (G1 w.heap.size) n Q .normal l W)
 (U:∀A pre W,(∀k,A k->w.heap.size<=k)->pre <+: S->Jx A pre W->A w.heap.size->W.heap[w.heap.size]? = some (.deferred (some []))->J7 (G1 w.heap.size) n Q .ret l W) :
 CW P n (.rangeFunc g #[p] X N) Q l w  :=
 NA hp hg eg Y.gen Z aa J Jx hJ ab h0 M (λA S' W e h=>by subst e;exact O A W h) U
def DistR (c:Nat) (J Jx:(nP)->List SV->wD->Prop) (S:List SV) (A:nP) (out:List SV) (gr:Nat) (V:List (Int×Int)):Ending->wD->Prop:=λe W'=>
 ∃q A',e = .returned (.bool q)/\(∀k,A k->A' k)/\((q=true/\J A' out W'/\ArrS CZ 0 0 W' gr V/\(∀k,A' k->c<=k/\k<W'.heap.size)/\c<=W'.heap.size)\/(q=false/\(∀k,A' k->c<=k) /\ ∃pre,pre <+: S/\Jx A' pre W'))
def DistR.ret {c:Nat} {J Jx:(nP)->List SV->wD->Prop} {S:List SV} {A:nP} {out:List SV} {V:List (Int×Int)} (h:DistR c J Jx S A out G V e w):∃v,e = .returned v:=by
 obtain ⟨_,_,h,-⟩:=h;exact ⟨_,h⟩
set_option maxHeartbeats 8000000 in
def P3 (y c gr lc:Nat) (la:oA) (h:Int) (ls:List (Int×Int)) (Rt:nP) (an:∀k,Rt k->k<c) (hh:1<=h/\h<=2001) (ao:∀p∈ls,0<=p.1/\p.1<=p.2/\p.2<=1000) (hn:1<=ls.length/\ls.length<=33) (J Jx:(nP)->List SV->wD->Prop) (hJ:EM c J) (S:List SV)
 (hY:∀A pre s vs W1,(∀k,A k->c<=k/\k<W1.heap.size)->J A pre W1->P2 c W1 vs s->(pre++[s]) <+: S->YieldAt (WF none) 0 prog y vs.toArray W1 (SRes Rt J Jx A (pre++[s]) W1))
 (A:nP) (out:List SV) (W:wD) (wt:Int) (h0:0<=wt) (h1:wt<=70000000) (hj:J A out W) (hA:∀k,A k->c<=k/\k<W.heap.size) (hc:c<=W.heap.size) (hg:A gr) (V:ArrS CZ 0 0 W gr (IP h ls 0)) (hl:Arr Rt 2 LP W ls la) (aj:(out++R5 h ls [] wt) <+: S) :
 Calls prog 85 #[.slice la ls.length lc,.slice (some ⟨gr,0,none⟩) (ls.length+1) (ls.length+1),.int .i64 h,.int .i64 wt,.func (.yield y) #[] #[]] W (DistR c J Jx S A (out++R5 h ls [] wt) gr (IP h ls 0)):=by
 have X:=Ne W;have a7:=(hA gr hg).2;have HL:Hid (∀w2,Ext W w2->Arr Rt 2 LP w2 ls la):=iF λw2 x=>hl.mono aFh (λ_ _ _ _ _ h=>mJ h x)
 have HY:=iF hY;have HA:=iF hA;have HR:=iF an;have HJ:=iF hj;have HS:=iF ao;refine Ad func85 ntmps85 rfl rfl (cS (eB [_] ?_));intro b1 w2 Y x5 p6 z7;revert V X;refine eE x5 ?_;intro V X;refine eB [_] ?_;intro b8 w9 G ap a8 a9;revert Y V X;refine eE ap ?_;intro Y V X;refine eB [_] ?_;intro ac ba M aq bb bc;revert G Y V X;refine eE aq ?_;intro G Y V X;refine eB [_] ?_;intro ad bd O ar be z28;revert M G Y V X;refine eE ar ?_;intro M G Y V X;refine eK ?_;refine Aw (Dq (sh:=Ik) (C:=0) (D:=0) (N:=ls.length) (z:=.slice none 0 0) Ac CC rfl rfl rfl rfl AU rfl rfl Ab (λ_ _=>⟨rfl,rfl⟩)) rfl ?_ aFh;rintro _ bf ⟨aa,rfl,U,bg,bh,au⟩;revert O M G Y V X;refine eE au ?_;intro O M G Y V X;refine xA [_] ?_;intro ae bi av;refine eI [_] av ?_;intro bj Z aw bk bl;revert U O M G Y V X;refine eE aw ?_;intro U O M G Y V X;refine cN (eA [_] ?_);intro ak bm af ax bn bo;revert Z U O M G Y V X;refine eE ax ?_;intro Z U O M G Y V X;refine cN (eA [_] ?_);intro ag bp ah ay bq br;revert af Z U O M G Y V X;refine eE ay ?_;intro af Z U O M G Y V X;refine cN (C1 (B6 rfl) (eS [_] af ?_));intro bs ai az bt;revert ah Z U O M G Y V X;refine eF az ?_;intro ah Z U O M G Y V X
 refine cN (C1 (B6 rfl) (eS [_] ah ?_));intro ab a0 a1 bu;revert ai Z U O M G Y V X;refine eF a1 ?_;intro ai Z U O M G Y V X;refine cT ?_;obtain ⟨x,hx⟩:∃x:DCx,x=⟨y,c,ad,b1,b8,ac,ae,ak,ag,aa,gr,lc,la,h,ls,Rt⟩:=⟨_,rfl⟩;have hA:=HA.out;have bv:=hA gr hg;have al:∀k,x.fix k↔(Rt k\/k=ad\/k=b1\/k=b8\/k=ac\/k=ae\/k=ak\/k=ag\/k=gr):=λk=>by rw [hx];exact Iff.rfl
 have a2:¬x.fix aa:=by
  rw [al];rintro (h|h)
  . have:=HR.out _ h;omega
  . omega
 have a3:x.Ok:=⟨by rw [hx];exact HR.out,by rw [hx];exact hh,by rw [hx];exact HS.out,by rw [hx];exact hn,by rw [show x.g=aa by rw [hx]];exact a2⟩
 have hD:x.D J (nu A W ab) out ab []:=by
  have hl:=HL.out _ X;refine ⟨by rw [hx];exact ⟨O,Y,G,M,Z,ai,a0,hl,V⟩,by rw [hx];exact ⟨λ_=>0,_,U,by rw [List.length_replicate],λi xs hi=>by simp at hi,λi j hi=>by simp at hi⟩,
   DCx.grow_j hJ HJ.out hA hc (mG X),λk hk=>?_,λk hk=>?_,?_,?_⟩
  . have:c<=k/\k<ab.heap.size:=hk.elim (λh=>⟨(hA k h).1,by have:=(hA k h).2;omega⟩) (λh=>⟨Ab,h.2⟩);rw [hx];exact this
  . rw [al] at hk;rw [hx];rcases hk with h|h
    . exact iG h
    . right;by_cases e:k=gr
      . exact iG (e▸hg)
      . exact iH ⟨Ab,Ab⟩
  . have:W.heap.size<=aa/\aa<ab.heap.size:=⟨Ab,Ab⟩;rw [hx];exact iH this
  . rw [hx];show c<=_;omega
 have HX:=iF ((R7 x a3 J Jx (by rw [hx];exact hJ) S (by rw [hx];exact HY.out) (x.ls.length*1002+1)).1 [] _ out ab wt AN AN AN h0 h1 hD (by rw [hx];exact aj));rw [hx] at HX;refine eK ?_;refine Aw (A9 (fi:=[]) (ca:=[pt ae,pt ad,pt b1,pt b8,pt ac,pt ag]) AU rfl rfl HX.out (λ_ _ h=>h.ret)) rfl ?_ aFh;rintro _ bw ⟨bx,a6,⟨⟩,am,a4⟩;refine kR ?_;obtain ⟨rfl,F,rfl,hD⟩|⟨rfl,a5,hp⟩:=a4
 . exact ⟨true,_,rfl,λk h=>am k (iG h),iG ⟨rfl,hD.j,hD.k.rs,hD.lt,hD.sz⟩⟩
 . exact ⟨false,_,rfl,λk h=>am k (iG h),iH ⟨rfl,a5,hp⟩⟩
def TF {F:Fence} {m:Nat} {l:Nat} {args:Array Value} {R R':Ending->wD->Prop} (h:YieldAt F m P l args w' R) (N:∀e w,R e w->R' e w):YieldAt F m P l args w' R':=by
 obtain ⟨fn,tmps,G,M,O,U⟩:=h;exact ⟨fn,tmps,G,M,O,U.mono N⟩
def fQ {s:SV} (h:P2 G w vs s):∃u,vs=[u]:=by
 obtain ⟨_,_,_,_,_,_,h,-⟩:=h;exact ⟨_,h⟩
set_option maxHeartbeats 8000000 in
def dR (vs:List VD) (b:BoxV) (hb:b.ok) (hv:C5 vs) (N:nP) (bo bb bl:Nat) (la:oA) (lc:Nat) (w:wD) (an:∀k,N k->k<w.heap.size) (hR:N bo/\N bb/\N bl) (p1:Blk w bo [.bool true]) (p2:Blk w bb [.int .i64 b.v,.int .i64 b.l,.int .i64 b.i]) (p3:Blk w bl [.slice la (CY vs b).length lc]) (p4:Arr N 2 LP w (CY vs b) la) :
 IterOk prog 83 [pt bo,pt bb,pt bl] P2 N (LQ vs b) w:=by
 intro y J Jx W hK hJ ay hY h0;have az:=hK.size;obtain ⟨o1,o2,o3⟩:=hR;have p1:=p1.fr hK (λe=>e o1);have p2:=p2.fr hK (λe=>e o2);have p3:=p3.fr hK (λe=>e o3);replace p4:Arr N 2 LP W (CY vs b) la:=p4.mono aFh (λb _ _ _ hb h=>mT h hK (λe=>e hb));have ag:∀k,N k->k<W.heap.size:=λk hk=>jX (an k hk) az
 have ac:=Pu hb hv;have ba:=KL vs b;have bc:=hv.1;have hS:LQ vs b=(jQ ((Bx (2*b.v+1) (CY vs b)).2-(Bx (2*b.v+1) (CY vs b)).1+1).toNat).flatMap λ(m:Nat)=>R5 (2*b.v+1) (CY vs b) [] ((Bx (2*b.v+1) (CY vs b)).1+m):=by
  rw [<-Yp];exact AG ⟨hb,hv⟩
 have hh:1<=2*b.v+1/\2*b.v+1<=2001:=by have:=hb.1;omega
 have hm:jP .i64 (2*b.v)=2*b.v:=iO _ Ab;have a0:=P1 hh (CY vs b) ac;obtain ⟨V,ao,bi⟩:=b;simp only at *;generalize CY vs ⟨V,ao,bi⟩=O at *;generalize LQ vs ⟨V,ao,bi⟩=S at *;obtain ⟨J2,Y⟩:∃J2:(nP)->List SV->wD->Prop,J2=λA out W'=>J A out W'/\Keeps N W W':=⟨_,rfl⟩
 have ah:EM W.heap.size J2:=by
  rw [Y];exact λA A' xs W1 W2 h f Z g2 g3=>⟨hJ A A' xs W1 W2 h.1 f Z g2 g3,h.2.trans (nF f (λk hk hA=>by have:=ag k hk;have:=Z k hA;omega))⟩
 have ap:=iF (show ∀A pre s vs W1,(∀k,A k->W.heap.size<=k/\k<W1.heap.size)->J2 A pre W1->P2 W.heap.size W1 vs s->(pre++[s]) <+: S->YieldAt (WF none) 0 prog y vs.toArray W1 (SRes N J2 Jx A (pre++[s]) W1) from λA pre s vs W1 hA G hs hp=>by
  rw [Y] at G ⊢;exact TF (hY A pre s vs W1 hA G.1 hs hp) (λe W2 ⟨k1,k2⟩=>⟨k1,k2.imp (λh=>⟨h.1,h.2,G.2.trans (k1.less λ_ h=>iH h)⟩) id⟩))
 have aq:J2 (λ_=>False) [] W:=by rw [Y];exact ⟨h0,Keeps.refl _ _⟩
 have HJ:=iF aq;have HR:=iF ag;have HL:=iF ac;have ar:=iF (λw1 h=>by have:=Wg O ac Ab (2*V+1) hh la lc w1 h;unfold fP at this;rw [Ha] at this;exact this);have a1:Bds W O la:=p4.mono (λ_ _=>trivial) (λ_ _ _ _ _ h=>h);have ai:=iF p3;have aj:=iF p4;have X:=Ne W;clear hY hJ ay h0 aq an ag hK p4 ac hb;show Calls _ _ #[.func (.yield y) #[] #[],pt bo,pt bb,pt bl] W _;refine Ad func83 ntmps83 rfl rfl ?_;refine eK ?_;refine C1 (Io rfl rfl hm) ?_;refine eK ?_;refine Aw (AM AU rfl (ar.out _ Ae) (λ_ _ ⟨_,h⟩=>⟨_,h.1⟩)) rfl ?_ aFh;rintro _ w6 ⟨Z,⟨⟩,h2,h3,h4,x5⟩;have X:=X.ext x5;refine C1 Pa (cT ?_);obtain ⟨cs,ry,aa⟩:=h4.row (E7 (m:=0) (j:=0) (iT _));rw [AG (iT _),ku] at aa;obtain rfl:cs=_:=aa;generalize a2:Bx (2*V+1) O=r at *;obtain ⟨U,rb⟩:=r;simp only at a0 hS ry;replace ry:Row w6 ⟨Z,0+0*2,none⟩ [.int .i64 U,.int .i64 rb]:=ry;clear p1 p2 p3 a1 ar;refine Aj (Aq (λwz=>Ext w6 wz) 11 (.pure 0 (.pure 1 (.pure 2 (.pure 3 (.pure 4 (.pure 5 (.pure 6 (.pure 7 (.pure 8 (.pure 9 (.pure 10 .done))))))))))) mixed AU (Aa Ag) ?_);intro au av _;have ad:(λwz=>Ext w6 wz) au:=av;simp only at ad;have M:=ry;revert h4 X;refine eY av ?_;intro bd h4 X;refine ⟨ad,?_⟩;refine eT ?_;refine Tq rfl (Dr M) ?_;refine eT ?_;refine Tq rfl (Dr M) (Tq rfl (AL rfl rfl (iO _ Ab)) (Tq rfl V7 (Tq rfl Mv ?_)));refine YX (Ai ?_)
 have G:=DCx.grow_j ah HJ.out (λ_ h=>h.elim) (iW _) (mG X);clear ry HJ;refine Au ?_;refine AP (ι:=Nat×(nP)) (λz=>[(0,.func (.yield y) #[] #[]),(3,pt bl),(5,.int .i64 (2*V+1)),(6,.slice (some ⟨Z,0,none⟩) (O.length+1) (O.length+1)),(26,.int .i64 (rb-U+1)),(27,.int .i64 z.1)])
  (λz w'=>z.1<=(rb-U+1).toNat/\J2 z.2 ((jQ z.1).flatMap λ(m:Nat)=>R5 (2*V+1) O [] (U+m)) w'/\ArrS CZ 0 0 w' Z (IP (2*V+1) O 0)/\z.2 Z/\(∀k,z.2 k->W.heap.size<=k/\k<w'.heap.size)/\W.heap.size<=w'.heap.size)
  (λz=>(rb-U+1).toNat-z.1) (0,nu (λ_=>False) W au) sB ⟨iT _,by rw [List.range_zero,List.flatMap_nil];exact G,h4,iH ⟨Ab,Ab⟩,λk hk=>hk.elim (λh=>h.elim) id,X.size⟩ ?_
 clear G h4 X;rintro ⟨m,A⟩ w7 ⟨a3,G,hr,hg,hA,hz⟩;simp only at a3 G hr hg hA hz;refine nq (m:=[(0,.func (.yield y) #[] #[]),(3,pt bl),(5,.int .i64 (2*V+1)),(6,.slice (some ⟨Z,0,none⟩) (O.length+1) (O.length+1)),(26,.int .i64 (rb-U+1)),(27,.int .i64 m)]) ?_ sB;by_cases a4:m<(rb-U+1).toNat
 . have ak:Keeps N W w7:=by rw [Y] at G;exact G.2
   have p3:=ai.out.fr ak (λe=>e o3);have p4:Arr N 2 LP w7 O la:=aj.out.mono aFh (λb _ _ _ hb h=>mT h ak (λe=>e hb));have ab:=K3 (f:=λ(m:Nat)=>R5 (2*V+1) O [] (U+m)) (out:=[]) (S:=S) (by rw [kF,hS];exact List.prefix_refl _) a4;have al:=JD (f:=λ(m:Nat)=>R5 (2*V+1) O [] (U+m)) (m:=m) (out:=[]);simp only [kF] at ab al;have HX:=iF (show ∀w8,Ext w7 w8->_ from λw8 x8=>P3 y W.heap.size Z lc la (2*V+1) O N HR.out hh HL.out Ab J2 Jx ah S ap.out (nu A w7 w8) _ w8 (U+m) Ab Ab (DCx.grow_j ah G hA hz (mG x8))
    (λk hk=>hk.elim (λh=>⟨(hA k h).1,by have:=(hA k h).2;have:=x8.size;omega⟩) (λh=>⟨Ab,h.2⟩)) (by have:=x8.size;omega) (iG hg) (hr.ext x8) (p4.mono aFh (λ_ _ _ _ _ h=>mJ h x8)) ab)
   rw [al] at HX;obtain ⟨cs,ry,aa⟩:=hr.row (E7 (m:=0) (j:=0) (iT _));rw [AG (iT _),ku,a2] at aa;obtain rfl:cs=_:=aa;replace ry:Row w7 ⟨Z,0+0*2,none⟩ [.int .i64 U,.int .i64 rb]:=ry;have X7:=Ne w7;clear G hr ak p4 ab al ai aj HR ap HL;refine eK ?_;refine Aq (λwz=>Ext w7 wz) 10 (.pure 0 (.pure 1 (.pure 2 (.pure 3 (.pure 4 (.pure 5 (.pure 6 (.pure 7 (.pure 8 (.pure 9 .tail)))))))))) mixed AU (Aa (Af (Aa (Aa (Af Ag))))) ?_;intro a5 aw _;have ae:(λwz=>Ext w7 wz) a5:=aw;simp only at ae;have a9:=p3;have M:=ry;have X7:=X7.ext aw;refine ⟨ae,?_⟩;refine eT ?_;refine Tq rfl (Dr M) (Tq rfl Mv (Tq rfl V7 (Tq rfl Mv ?_)));refine Ar rfl (eQ rfl (HX.out _ Ae) ?_);rintro _ be ⟨bf,af,⟨⟩,ax,a6⟩;refine C1 Pt (cT ?_);obtain ⟨rfl,G,hr,am,a7⟩|⟨rfl,am,hp⟩:=a6
   . have a8:=ax Z (iG hg);clear ax hA hz hg;refine eK ?_;exact AA (m+1,af) sB ⟨by simp only;omega,G,hr,a8,am,a7⟩ (by simp only;omega)
   . refine eK ?_;refine EZ rfl ?_;exact ⟨⟨_,rfl⟩,af,am,iH hp⟩
 . obtain rfl:m=(rb-U+1).toNat:=by omega
   clear ai aj;rw [<-hS,Y] at G;refine cS (C1 V3 (cT (Aj (DA (Ca (AB (AB (A0 (Bm rfl ?_)))))))));exact ⟨⟨_,rfl⟩,A,λk h=>(hA k h).1,iG G.1⟩
def dT (G M N:Nat) (O:nP) (w:wD) (V:O G) (U:Blk w G [.bool false]) :
 IterOk prog 83 [pt G,pt M,pt N] P2 O [] w:=by
 intro y J Jx W X hJ Y hY Z;have U:=U.fr X (λe=>e V);have H0:=iF Z;show Calls _ _ #[.func (.yield y) #[] #[],pt G,pt M,pt N] W _;refine Ad func83 ntmps83 rfl rfl (eK ?_);refine EZ rfl ?_;exact ⟨⟨_,rfl⟩,λ_=>False,λ_ h=>h.elim,iG H0.out⟩
def AllR (vs:List VD) (b:BoxV) (w:wD):Ending->wD->Prop:=λe w'=> ∃bo bb bl,e = .returned (.func (.func 83) #[] #[.pointer (some ⟨bo,0,none⟩),.pointer (some ⟨bb,0,none⟩),.pointer (some ⟨bl,0,none⟩)]) /\
 IterOk prog 83 [.pointer (some ⟨bo,0,none⟩),.pointer (some ⟨bb,0,none⟩),.pointer (some ⟨bl,0,none⟩)] P2 (λk=>w.heap.size<=k/\k<w'.heap.size) (LQ vs b) w'/\Ext w w'
def AllR.ret {vs:List VD} {b:BoxV} (h:AllR vs b w e w'):∃v,e = .returned v:=by
 obtain ⟨_,_,_,h,-⟩:=h;exact ⟨_,h⟩
def fR (vs:List VD) (hl:vs.length<=1000000) (b:BoxV) (S:nP) (a:oA) (c:Nat) (w:wD) (hs:VDs S w vs a) :
 Calls prog 47 #[.slice a vs.length c,.agg #[.int .i64 b.v,.int .i64 b.l,.int .i64 b.i]] w (AllR vs b w):=by
 have X:=Ne w;by_cases hv:b.ok/\C5 vs
 . have HL:=iF (λw1 h=>MO vs b hv.1 hv.2 S a c w1 h);have HA:=iF (dR vs b hv.1 hv.2);obtain ⟨bv,bl,bi⟩:=b;simp only at HL HA;refine Ad func47 ntmps47 rfl rfl (cS (Du [_,_,_] rfl rfl rfl ?_));intro b1 w2 n3;have M:=n3.blk;dsimp only at M;have x5:=n3.ext;have p6:=n3.pos;have z7:=n3.size;revert hs X;refine eE x5 ?_;intro hs X;refine eK ?_;refine Aw (AM AU rfl (HL.out _ Ae) (λ_ _ ⟨_,_,h⟩=>⟨_,h.1⟩)) rfl ?_ aFh;rintro _ a4 ⟨a8,c9,⟨⟩,G,ai⟩;revert M X;refine eY ai ?_;intro a5 M X;refine eK ?_;refine eA [_] ?_;intro a6 a7 Y aj a9 ba;revert G M X;refine eE aj ?_;intro G M X;refine eA [_] ?_;intro bb bc Z ak bd be;revert Y G M X;refine eE ak ?_;intro Y G M X;refine eS [_] Y ?_;intro bf aa ab bg;revert Z G M;refine eF ab ?_;intro Z G M;have X:=X.fr ab Ab;refine eS [_] Z ?_;intro al am an bh;revert aa G M X;refine eF an ?_;intro aa G M X;refine cN (C1 (B6 rfl) (kR ?_));exact ⟨_,_,_,rfl,HA.out (λk=>w.heap.size<=k/\k<al.heap.size) _ _ _ _ _ _ (λk hk=>hk.2) ⟨⟨Ab,Ab⟩,⟨Ab,Ab⟩,Ab,Ab⟩ am M aa (Arr.mono G (λb h=>⟨Ab,Ab⟩) (λ_ _ _ _ _ h=>h)),X⟩
 . have HL:=iF (λw1 h=>On vs hl b hv S a c w1 h);have e:LQ vs b=[]:=At hv;unfold AllR;rw [e];obtain ⟨bv,bl,bi⟩:=b;simp only at HL;refine Ad func47 ntmps47 rfl rfl (cS (Du [_,_,_] rfl rfl rfl ?_));intro bj bk U;have ao:=U.blk;dsimp only at ao;have ap:=U.ext;have bm:=U.pos;have bn:=U.size;revert hs X;refine eE ap ?_;intro hs X;refine kC (HL.out _ Ae) ?_;rintro _ bo ⟨⟨⟩,ac⟩;have aq:=ac.size;have X:=X.ext ac;refine eK ?_;refine eA [_] ?_;intro ar au N ad av aw;have X:=X.ext ad;refine eA [_] ?_;intro ax ay O ae az a0;revert N X;refine eE ae ?_;intro N X;refine eS [_] N ?_;intro a1 _ V a2;have O:=O.fr V Ab;have X:=X.fr V Ab;refine eS [_] O ?_;intro af ag ah a3;have X:=X.fr ah Ab;refine cN (C1 (B6 rfl) (kR ?_));exact ⟨_,_,_,rfl,dT _ _ _ (λk=>w.heap.size<=k/\k<af.heap.size) _ ⟨Ab,Ab⟩ ag,X⟩
def dU {fn:Func} {R:Ending->wD->Prop} (h:QW n (bodyPost P fn R) .ret l w):QW n (bodyPostM (WF none) 0 P fn R) .ret l w:=by
 unfold QW at h ⊢;intro a G;obtain ⟨M,N⟩:=h a G;show LeavesInM _ _ _ _ _ _ a.defers _ _;rw [M];exact N
def Yt {m:Nat} {fn:Func} {R:Ending->wD->Prop} (G:w.heap[m]? = some (.deferred (some []))) (h:∀w',Fr (· = m) w w'->QW n (bodyPost P fn R) .ret l w'):J7 (G1 m) n (bodyPostM (WF none) 0 P fn R) .ret l w:=by
 unfold J7;intro a M;show LeavesInM _ _ _ _ _ _ a.defers _ _;rw [M.2];refine ⟨AN,.inl ⟨_,_,rfl,run_takeDeferred G,?_⟩⟩;have N:=h (w.putObj m (.deferred none)) (Iu _ G);unfold QW at N;obtain ⟨-,v,O,U⟩:=N _ M.1;exact ⟨v,O,U⟩
def Wi {o:Oper} {a:Act} {K:Act->wD->Prop} (N:∀w d w',(execOp a.eval o).run P w≠.ok (.defer d) w') (h:o.wp P { a with defers:=[] } w (λM w'=>K { M with defers:=a.defers } w') (λe M w'=>Q e { M with defers:=a.defers } w')):o.wp P a w K Q:=by
 unfold kh at h ⊢;have e:({ a with defers:=[] }:Act).eval=a.eval:=rfl;have O:LetsOut (λe M w'=>Q e { M with defers:=a.defers } w')->LetsOut Q:=λ⟨M,w',h⟩=>⟨_,w',h⟩
 have G:∀v,({ ({ a with defers:=[] }:Act).put o.dst v with defers:=a.defers }:Act)=a.put o.dst v:=λv=>by cases o.dst<;>rfl
 rw [e] at h;generalize U:(execOp a.eval o).run P w=x at h;cases x with
 | ok v w'=>
  cases v with
  | value v=>simp only [Oper.upon,G] at h ⊢;exact h
  | skip=>simp only [Oper.upon,G] at h ⊢;exact h
  | enter f args=>
   simp only [Oper.upon,G] at h ⊢;exact jE h (λe w h=>by
    cases e with
    | returned v=>exact h
    | panicked c=>exact h
    | outgrown=>exact O h)
  | row r args=>simp only [Oper.upon,G] at h ⊢;exact h
  | defer d=>exact absurd U (N w d w')
  | _=>exact h.elim
 | halt v w'=>cases v<;>simp only [Oper.upon] at h ⊢ <;> first|exact h|exact h.elim
def Wj {D:List Deferred} {ops:Array Oper} {rest:List Oper} {op:Op} {ty:TypeId} {pos:String} {after:Array Edge} {K:Option Value->wD->Prop} (G:∀(a:Act) w d w',(execOp a.eval ⟨none,op,ty,pos,after,none⟩).run P w≠.ok (.defer d) w') (N:BG P n l op ty w K) (O:∀v w1,¬K (some v) w1) (k:∀w1,K none w1->SU P D n ops Q rest l w1) :
 SU P D n ops Q (⟨none,op,ty,pos,after,none⟩::rest) l w:=by
 unfold SU at k ⊢;intro a M;unfold wpList;rw [AG (Bd rfl)];left;refine Wi (G a) ?_;unfold BG at N;refine N _ _ _ _ _ _ _ M.1 (λv w1 h=>absurd h (O v w1)) (λw1 h=>?_);exact k w1 h _ ⟨M.1,rfl.trans M.2⟩
def NB {tab:Tab} {sz Y:Nat} {fn:Func} {R:Ending->wD->Prop} {Z M b N X:Nat} {sk O:Sk} {v:Value} (h:fn.results = #[.cell Z M,.cell N G]) (T:TabOk P tab) (ht:AD tab M=some (sk,sz)) (aa:AD tab G=some (O,Y)) (hs:sk.agg=true) (ab:O.agg=false)
 (hv:look l Z=some (pt b)) (ac:look l N=some (pt X)) (hb:Blk w b vs) (ad:Blk w X [v]) (hl:vs.length=sz) (hR:R (.returned (.tuple #[.agg vs.toArray,v])) w):QW n (bodyPost P fn R) .ret l w:=by
 unfold QW;intro a ha;refine ⟨ha.defers,.tuple #[.agg vs.toArray,v],?_,hR⟩;have e:(loadVar M ⟨b,0,none⟩).run P w = .ok (.agg vs.toArray) w:=by
  simp only [iV,je,iP,loadVar,CB (T _ _ _ ht),hs,if_true,Cb (T _ _ _ ht)];rw [<-hl,CG hb.row]
 have e':(loadVar G ⟨X,0,none⟩).run P w = .ok v w:=by
  simp only [iV,je,iP,loadVar,CB (T _ _ _ aa),ab];have hc:w.cell? ⟨X,0,none⟩=some v:=mM ad rfl;simp [load,kG,hc]
 have U:=ha.has Z _ hv;have V:=ha.has N _ ac;simp only [jL] at U V;simp [results,h,U,V,e,e',asAddr]
def Yu {t ty:TypeId} {x y:Operand} {pos:String} {after:Array Edge} (a:Act) (w:wD) (d:Deferred) (w':wD):(execOp a.eval ⟨none,.store t x y,ty,pos,after,none⟩).run P w≠.ok (.defer d) w':=by
 simp only [execOp,iV];intro h;generalize (Instr.storeAt t (a.eval x) (a.eval y)).run P w=r at h;cases r<;>simp [iP,je] at h
section
variable {r:Option Nat} {ops:Array Oper}
def Yv {i:Nat} {a:Act} {G:Act->wD->Prop} (N:¬LetsOut Q) (O:∀o,ops[i]? = some o->Gu o=true) (h:wpOp P ops Q i G a w):wpOpIn (WF r) 0 P ops Q i G a w:=by
 unfold wpOp at h;unfold wpOpIn;cases ho:ops[i]? with
 | none=>rw [ho] at h;exact h
 | some o=>
  rw [ho] at h;simp only at h ⊢;by_cases M:Region.wanted o (yielded ops a.tmps)=true
  . rw [AG M] at h ⊢;rcases h with h|h
    . exact T5 (O o ho) h
    . exact absurd h.2 N
  . rw [At M] at h ⊢;exact ⟨λ_ _=>trivial,h⟩
def OV (N:¬LetsOut Q) (O:∀(i:Nat) (o:Oper),ops[i]? = some o->Gu o=true):∀(G:Nat) (M:Array Bool) (a:Act) (w:wD),wpAny P .any ops Q G M a w->wpAnyIn (WF r) 0 P .any ops Q G M a w
 | 0,_,_,_,h=>h
 | G+1,_,_,_,h=>⟨h.1,λi U=>wpOpIn_mono (λV w' X=>OV N O G _ V w' X) (Yv N (O i) (h.2 i U))⟩
end
def NR {Kp:nP} {J Jx:(nP)->List α->wD->Prop} {xs:List α}:Dh (Eo Kp J Jx S xs w):=λ_ _ _ _ _ h=>h
def Yw {r:Option Nat} {id:List Oper} (S:wD->Prop) (K:Nat) (s:Sc) (hm:P.follows .mixedOrders=true) (N:(id.all Gu&&(Region.noSelect id.toArray&&(jW id.length K||I8 id.toArray K)&&Sc.ok id.toArray K true s id.length (jZ id.length false)))=true) (hQ:Dh Q) (hL:¬LetsOut Q)
 (h:∀w1,Ext w w1->w1.heap=w.heap->S w1/\TW P n id.toArray Q S K s l w1):CR P n r (.region G id.toArray true) Q l w:=by
 intro a ha;simp only [iJ] at N;obtain ⟨U,N⟩:=N;obtain ⟨h1,h2⟩:=h w.drew (Ne w).drew rfl;unfold TW at h2;have V:∀i,i<K->Ek id.toArray K i:=by
  by_cases hK:K<id.toArray.size
  . have M:=N.1.2;simp only [jI] at M;rcases M with M|M
    . have:=jc M;simp at hK;omega
    . exact DU M hK
  . intro i hi O j o _ hj X _;have aa:j<id.toArray.size:=(Array.getElem?_eq_some_iff.1 X).1;omega
 have Y:DC id.toArray (jZ id.length false):=λk o _ M=>by
  exfalso;rcases i7 k id.length with Z|Z
  . simp [Z] at M
  . simp [ju,Z] at M
 refine wpIn_region_any hm (OV hL (λi o X=>jr.1 U o (jh (by simpa using X))) _ _ _ _ (I9 (S:=S) (K:=K) _ _ _ _ ?_));have:=(HT.any N.1.1 V hQ s id.length (jZ id.length false) a w.drew Y h1 (h2 a ha)).1 N.2;simpa using this
def fS {M:List Oper} (h:LI P n M.toArray Q M l w):CW P n (.region G M.toArray false) Q l w:=T6 λa N=>wpIn_region_lit (h a N)
def Uw {ops:Array Oper} {rest:List Oper} {op:Op} {d:Nat} {ty:TypeId} {pos:String} {after:Array Edge} {v:Value} (h:Gu ⟨some d,op,ty,pos,after,none⟩=true) (G:Br P n l (· = w) op ty v) (N:jg d n=true) (k:LI P n ops Q rest ((d,v)::l) w) :
 LI P n ops Q (⟨some d,op,ty,pos,after,none⟩::rest) l w:=λa M=>by
 unfold Br at G;have e:=G a w (some d) pos after none M rfl;unfold wpListIn;rw [AG (Bd rfl)];refine T5 h ?_;unfold kh;rw [e];exact k _ (M.put N v)
abbrev VdV.row (v:VdV) (a:oA) (c:Nat) (ta:oA) (tc:Nat) (oa:oA) (oc:Nat):lV:=[.bool v.ok,.int .i64 v.tried,.slice a v.st.cells.length c,.slice ta v.st.tin.length tc,.slice oa v.st.tout.length oc,.int .i64 v.err]
def VdR (r:VdV×Int) (w:wD):Ending->wD->Prop:=λe w'=> ∃a c ta tc oa oc,e = .returned (.tuple #[.agg (r.1.row a c ta tc oa oc).toArray,.int .i64 r.2])/\r.1.st.sits (λb=>w.heap.size<=b/\b<w'.heap.size) w' a ta oa/\r.1.st.small/\Ext w w'
def VdR.ret {r:VdV×Int} (h:VdR r w e w'):∃v,e = .returned v:=by
 obtain ⟨_,_,_,_,_,_,h,-⟩:=h;exact ⟨_,h⟩
def Il:(⟨[],[],[]⟩:SV).sits S w none none none:=⟨iG rfl,iG rfl,iG rfl⟩
def GG:(⟨[],[],[]⟩:SV).small:=⟨AN,AN,AN,AN⟩
def fT {e:EX} (h:e.valid):e.fuel=(e.fuel.toNat:Int):=by have:=h.1.2.2;omega
set_option maxHeartbeats 8000000 in
def aM (e:EX) (hw:e.wf) (d2:e.fuel<=10000) (p:PG) (hp:p.wf) (b7:p.vars.length<=1000000) (S:nP) (va:oA) (vc:Nat) (pa:oA) (pc:Nat) (ma:oA) (mc:Nat) (am:oA) (ar:Nat) (ac:oA) (az:Nat) (an:oA) (a0:Nat) (w:wD)
 (hs:e.sits S w va pa ma vc) (G:p.sits S w am ac an) (M:PDsC S w p.procs ac) (bi:p.vars.length<=ar) :
 Calls prog 24 #[.agg (e.cells va vc pa pc ma mc).toArray,.agg (p.cells am ar ac az an a0).toArray] w (VdR (BN e p) w):=by
 have X:=Ne w;replace hs:=hs.ltA;replace G:=G.ltA;replace M:=M.ltA;have HA:=iF (λw1 h1 h2 h3=>aI e hw p hp b7 (· < w.heap.size) va vc pa pc ma mc am ar ac az an a0 w1 h1 h2 h3 bi);by_cases hv:D8 e p=0
 . obtain ⟨a8,bj,a9⟩:=VU (aH p) hv;obtain ⟨f,bk⟩:∃f:Nat,e.fuel=(f:Int):=⟨_,fT a8⟩
   have b9:e.fuel.toNat=f:=by omega
   have hg:BN e p=(Wu e.g p e.fuel.toNat (LQ e.g.vars e.box) 0,0):=At (λh=>h hv);have Y:=hs.g.vars;rw [hg,b9];rw [hv] at HA;have bl:=iF (λw1 h=>fR e.g.vars hw.few e.box (· < w.heap.size) va vc w1 h);have HC:=iF (λ(s t:SV) (h1:FitsP p.vars s) (h2:t.small) (S1 S2 S3 S4:nP) ca ta oa ca' ta' oa' cc tc oc cc' tc' oc' w1 (h3:p.sits S1 w1 am ac an) (h4:PDsC S2 w1 p.procs ac) (h5:s.sits S3 w1 ca ta oa) (h6:t.sits S4 w1 ca' ta' oa')=>We e f bk Ab p hp bj s t h1 h2 (λ_=>True) va vc pa pc ma mc am ar ac az an a0 ca ta oa ca' ta' oa' cc tc oc cc' tc' oc' w1 (h3.wide λ_ _=>trivial) (h4.wide λ_ _=>trivial) bi (h5.wide λ_ _=>trivial) (h6.wide λ_ _=>trivial));have HF:=iF (λ(s:SV) (h1:FitsP e.g.vars s) (S1 S2 S3:nP) ca ta oa cc tc oc w1 (h3:e.g.sits S1 w1 va pa ma) (h4:PDsC S2 w1 e.g.procs pa) (h5:s.sits S3 w1 ca ta oa)=>show Calls prog 48 #[.agg (e.g.cells va vc pa pc ma mc).toArray,.agg (s.row ca cc ta tc oa oc).toArray,.int .i64 e.fuel] _ (ResR (DR e.g s f) w1) from bk▸OJ e.g hw.g a8.2.1.1 a8.2.1.2.1 s h1 f Ab _ (PZ e.g s f) (λ_=>True) va vc pa pc ma mc ca ta oa cc tc oc w1 (h3.wide λ_ _=>trivial) (h4.wide λ_ _=>trivial) hs.room (h5.wide λ_ _=>trivial));have HK:=iF (λ(s:SV) h1=>Yg (g:=e.g) (s:=s) h1 f);have HA:=iF (λw1 h1 cb h2 h3=>HA.out w1 ⟨h1,cb,hs.room⟩ h2 h3)
   have N:=hs.g;have O:=hs.p;unfold EX.cells at *;refine Gw (args:=[_,_]) func24 ntmps24 rfl rfl (cS (eB [_,_,_,_,_,_,_,_,_,_,_,_] ?_));intro b1 w2 h4 x5 p6 z7;revert X G M Y N O;refine eE x5 ?_;intro X G M Y N O;refine eB [_,_,_,_,_,_] ?_;intro b8 w9 Z cd d3 d4;revert h4 X G M Y N O;refine eE cd ?_;intro h4 X G M Y N O;refine eA [_,_,_,_,_,_] ?_;intro au d5 ae ce d6 z22;revert Z h4 X G M Y N O;refine eE ce ?_;intro Z h4 X G M Y N O;refine eA [_] ?_;intro a1 d7 ag cf d8 d9;revert ae Z h4 X G M Y N O;refine eE cf ?_;intro ae Z h4 X G M Y N O;refine eK ?_;refine A3 [_,_,_,_,_,_,_,_,_,_,_,_] Ac rfl rfl rfl h4 rfl rfl rfl (A3 [_,_,_,_,_,_] Ac rfl rfl rfl Z rfl rfl rfl (cC rfl (HA.out _ Ae Ae Ae Ae) ?_));rintro _ ea ⟨⟨⟩,cg⟩;revert ag ae Z h4 X G M Y N O;refine eY cg ?_;intro eb ag ae Z h4 X G M Y N O;refine eK ?_;refine EF [_] CC rfl rfl ?_;intro ba ec ch;refine eI [_] ch ?_;intro ci bb cj ed ee;revert ag ae Z h4 X G M Y N O;refine eE cj ?_;intro ag ae Z h4 X G M Y N O;refine kQ (bl.out _ Ae) ?_;rintro _ a2 ⟨cz,c0,c1,⟨⟩,ck,bm⟩;have ef:=bm.size;revert bb ag ae Z h4 X G M N O;refine eE bm ?_;intro bb ag ae Z h4 X G M N O;refine cT ?_
   have l4:=ag.lt;generalize cl:LQ e.g.vars e.box=S' at *;refine Au ?_;refine Wh rfl rfl AU ck (λ_ _ _ _ h=>fQ h) (λk hk=>hk.2)
    (λA xs W=> ∃n,Wu e.g p f S' 0=Wu e.g p f (S'.drop xs.length) n/\Blk W ba [.int .i64 n]/\Blk W a1 [.int .i64 0]/\Blk W au [.bool false,.int .i64 0,.slice none 0 0,.slice none 0 0,.slice none 0 0,.int .i64 0]/\Blk W b8 (p.cells am ar ac az an a0)/\Blk W b1 (e.cells va vc pa pc ma mc)/\e.g.sits (· < w.heap.size) W va pa ma/\PDsC (· < w.heap.size) W e.g.procs pa/\p.sits (· < w.heap.size) W am ac an/\PDsC (· < w.heap.size) W p.procs ac/\Ext w W)
    (λA xs W=> ∃(s:SV) (n er:Int) (a:oA) (c:Nat) (ta:oA) (tc:Nat) (oa:oA) (oc:Nat),Wu e.g p f S' 0=⟨false,n,s,er⟩/\Blk W au [.bool false,.int .i64 n,.slice a s.cells.length c,.slice ta s.tin.length tc,.slice oa s.tout.length oc,.int .i64 er]/\Blk W a1 [.int .i64 0]/\s.sits (λb=>w.heap.size<=b /\ ¬A b/\b<W.heap.size) W a ta oa/\s.small/\Ext w W) ?_ ?_ ?_ ?_ ?_ ?_
   . rintro A A' xs W W' ⟨n,g1,g2,g3,g4,g5,g6,g7,g8,g9,bn,x⟩ hf hA - -;have ho:∀b,b<w.heap.size -> ¬A b:=λb hb h=>by have:=hA b h;omega
     exact ⟨n,g1,g2.fr hf (λe=>by have:=hA _ e;omega),g3.fr hf (λe=>by have:=hA _ e;omega),g4.fr hf (λe=>by have:=hA _ e;omega),g5.fr hf (λe=>by have:=hA _ e;omega),g6.fr hf (λe=>by have:=hA _ e;omega),g7.fr hf ho,g8.fr hf ho,g9.fr hf ho,bn.fr hf ho,mQ x hf (λk hk=>by have:=hA _ hk;omega)⟩
   . rintro A A' xs W W' ⟨s,n,er,a,c,ta,tc,oa,oc,g1,g2,g3,g4,g5,x⟩ hf hA-cm;exact ⟨s,n,er,a,c,ta,tc,oa,oc,g1,g2.fr hf (λe=>by have:=hA _ e;omega),g3.fr hf (λe=>by have:=hA _ e;omega),(g4.fr hf (λb hb=>hb.2.1)).wide (λb hb=>⟨hb.1,λh=>hb.2.1 (cm b hb.2.2 h),by have:=hf.size;omega⟩),g5,mQ x hf (λk hk=>by have:=hA _ hk;omega)⟩
   . exact ⟨0,AN,bb,ag,ae,Z,h4,N,O,G,M,X⟩
   . rintro r A pre x u W hA cn ⟨n,j1,j2,j3,j4,j5,j6,j7,j8,j9,U,x0⟩ ⟨ca,cc,ta,tc,oa,oc,eu,sx⟩ av;simp only [jw,and_true] at eu;subst eu;have bo:x∈S':=by obtain ⟨q,hq⟩:=av;rw [<-hq];simp
     have bc:S'.drop pre.length=x::S'.drop (pre++[x]).length:=by obtain ⟨q,hq⟩:=av;rw [<-hq];simp
     rw [bc] at j1;have V:FitsP e.g.vars x:=Oz x (by rw [cl];exact bo);have bd:=HK.out x V;have bp:=iF (HF.out x V);have co:=iF (λS a ta oa c tc oc w1 h=>KQ x S a ta oa c tc oc w1 V.small.few V.small.each V.small.tin V.small.tout h);have cp:=V.small;have be:=iF (HC.out _ x (by rw [a9];exact bd) V.small);have eg:=hA _ cn;have X1:=Ne W;obtain ⟨xc,xi,xo⟩:=x;unfold EX.cells at *;refine Bs rfl Gx (EF [_,_,_] CC rfl rfl ?_);intro eh ei aq;refine Dz [_,_,_] Ac rfl rfl rfl rfl rfl rfl aq rfl ?_;intro ej aq;have aa:=aq.blk;dsimp only at aa;have cq:=aq.ext;have ek:=aq.pos;have el:=aq.size;revert j2 j3 j4 j5 j6 j7 j8 j9 U x0 X1 sx;refine eE cq ?_;intro j2 j3 j4 j5 j6 j7 j8 j9 U x0 X1 sx;refine Ak (Iw (Keeps.of_ext X1) λW2 f2=>?_)
     revert aa j2 j3 j4 j5 j6;refine eF f2 ?_;intro aa j2 j3 j4 j5 j6;replace j7:=j7.fr f2 (λb hb e=>by omega);replace j8:=j8.fr f2 (λb hb e=>by omega);replace j9:=j9.fr f2 (λb hb e=>by omega);replace U:=U.fr f2 (λb hb e=>by omega);replace x0:=mQ x0 f2 (λk hk=>by omega);replace sx:=sx.fr f2 (λb hb e=>by omega);have em:=f2.size;have bq:=iF (show ∀k,A k->a2.heap.size<=k/\k<W2.heap.size from λk hk=>by have:=hA k hk;omega);have X3:=mI (λk=>k=ba\/k=au\/k=a1) W2;have hK:∀k,A k\/(ci.heap.size<=k/\k<a2.heap.size) -> ¬(k=ba\/k=au\/k=a1):=λk hk h=>by
      rcases hk with hk|hk
      . have:=bq.out k hk;omega
      . omega
     have bf:=iF hK;rw [Nz] at j1;generalize DR e.g ⟨xc,xi,xo⟩ f=gv at *;obtain ⟨⟨gc,gi,go⟩,gn,ge⟩:=gv;simp only at j1 be bp;refine Gv (Dj (Bs rfl (Bw (By B5)) (kQ (bp.out _ _ _ _ _ _ _ _ _ _ Ae Ae Ae) ?_)));rintro _ c2 ⟨en,eo,c3,c4,c5,c6,⟨⟩,a3,ep,cr⟩;revert aa j2 j3 j4 j5 j6 j7 j8 j9 U x0 sx X3;refine eY cr ?_;intro c7 aa j2 j3 j4 j5 j6 j7 j8 j9 U x0 sx X3;refine EF [_,_,_,_,_] CC rfl rfl ?_;intro c8 c9 ad;refine Dz [_,_,_,_,_] Ac rfl rfl rfl rfl rfl rfl ad rfl ?_;intro da ad;have ah:=ad.blk;dsimp only at ah;have br:=ad.ext;have db:=ad.pos;have dc:=ad.size;revert a3 aa j2 j3 j4 j5 j6 j7 j8 j9 U x0 sx X3;refine eE br ?_;intro a3 aa j2 j3 j4 j5 j6 j7 j8 j9 U x0 sx X3;refine Ak (Cw (Dj ?_));by_cases bs:ge=0
     . subst bs;rw [At AN] at j1;generalize DR p ⟨gc,gi,go⟩ f=rv at *;obtain ⟨rs,rn,re⟩:=rv;simp only at j1 be
       focus
        refine Dj (Bs rfl (Bw (Bw (By B5))) (C1 Pf (C1 (Pl ah) (C1 V2 (Ak (Cw (bF rfl B9 (F4 (Cw (Dj (Bs rfl (Bw (By B5)) (C1 (Pl j2) (C1 (LR rfl rfl rfl) (eS [_] j2 ?_))))))))))))));intro eq a4 af et;revert aa j3 j4 j5 j6;refine eF af ?_;intro aa j3 j4 j5 j6;replace j7:=ny j7 af (λb hb h=>by omega);replace j8:=PDsC.fr j8 af (λb hb h=>by omega);replace j9:=ny j9 af (λb hb h=>by omega);replace U:=PDsC.fr U af (λb hb h=>by omega);replace x0:=x0.fr af Ab;replace sx:=nt sx af (λb hb h=>by omega);revert X3 ah;refine eF af ?_;intro X3 ah;replace a3:=nt a3 af (λb hb h=>by omega);refine Ak (Cw (Dj (Bs rfl (Bw (By B5)) (A3 [_,_,_,_,_,_,_,_,_,_,_,_] Ac rfl rfl rfl j6 rfl rfl rfl (eK ?_)))));refine Aw (AM AU rfl (be.out _ _ _ _ _ _ _ _ _ _ _ _ _ _ _ _ _ Ae Ae Ae Ae) (λ_ _ ⟨_,h⟩=>⟨_,h.1⟩)) rfl ?_ aFh;rintro _ bt ⟨ew,⟨⟩,bu,ct⟩;revert a4 aa j3 j4 j5 j6 j7 j8 j9 U x0 sx X3;refine eY ct ?_;intro dd a4 aa j3 j4 j5 j6 j7 j8 j9 U x0 sx X3;refine C1 Mv (C1 Px (C1 Px (C1 Pa (C1 Pa (Ak (Cw (Dj (Bs rfl (Bw (By B5)) (C1 Mv (C1 Pt (Ak (Cw (W8 rfl (λap=>?_) (λap=>?_))))))))))))));refine Dj (Yw (λwz=>Ext bt wz) 4 (.pure 0 (.pure 1 (.pure 3 (.fork 2 .tail .none)))) mixed AU (Aa (Af NR)) (Bw (By B5)) ?_);intro bv a5 _;have ab:(λwz=>Ext bt wz) bv:=a5;simp only at ab;have bg:=a4;have bh:=aa;revert j3 j4 x0 sx X3;refine eY a5 ?_;intro de j3 j4 x0 sx X3;refine ⟨ab,(Tq rfl (Db bg) (Tq rfl (BW [_,_,_] Ac rfl rfl rfl (λwz hz=>(mN bh hz)) rfl rfl) (Tq rfl Mv (AC rfl (AM AU rfl (co.out _ _ _ _ _ _ _ _ Ae) (λ_ _ h=>h.ret)) rfl ?_ aFh Ay))))⟩;rintro _ df ⟨dg,dh,cu,cv,cw,cx,⟨⟩,ai,bw⟩;revert ab j3 j4 x0 X3;refine eE bw ?_;intro ab j3 j4 x0 X3;refine ⟨ab,(Ar rfl (C1 (D3 [_,_,_,_,_,_] Ac CC rfl rfl rfl rfl) (eS [_,_,_,_,_,_] j4 ?_)))⟩;intro di aw a6 dk;replace ai:=nt ai a6 (λb hb h=>by omega);revert j3 x0 X3;refine eF a6 ?_;intro j3 x0 X3;refine eS [_] j3 ?_;intro dl bx ax dm;replace aw:=aw.fr ax Ab;replace ai:=nt ai ax (λb hb h=>by omega);revert x0 X3;refine eF ax ?_;intro x0 X3
        refine Ak (Cw (WZ (AJ ?_)));rotate_left;refine F4 (Ah ?_);rotate_left
       . rw [At (λh=>by rw [bu.2 h] at ap;cases ap)] at j1;have:=X3.size;exact W6 (nF X3 bf.out) ⟨⟨xc,xi,xo⟩,_,re,_,_,_,_,_,_,j1,aw,bx,ai.wide (λb hb=>⟨Ab,λh=>by have:=(bq.out b h).2;omega,Ab⟩),cp,x0⟩
       . rw [AG (bu.1 ap)] at j1;exact Jk (nF X3 bf.out) ⟨_,j1,a4,j3,j4,j5,j6,j7,j8,j9,U,x0⟩
     . rw [AG bs] at j1;refine Dj (Bs rfl (Bw (Bw (By B5))) (C1 Pf (C1 (Pl ah) (C1 V2 (Ak (Cw (W7 rfl Ae (Za (AB (A0 ?_))))))))));exact Jk (nF X3 bf.out) ⟨n,j1,j2,j3,j4,j5,j6,j7,j8,j9,U,x0⟩
   . rintro A W hA ⟨n,g1,g2,g3,g4,g5,g6,g7,g8,g9,bn,x⟩ hm hk;rw [ly] at g1;rw [g1];have bz:a2.heap.size<W.heap.size:=(Array.getElem?_eq_some_iff.1 hk).1;refine Ix (DF (It (EN (FI (Ap Ac rfl rfl rfl (λwz hz=>by rw [show wz=W from hz];exact g2.cell rfl)) rfl (FI (D3 [.bool true,.int .i64 n,.slice none 0 0,.slice none 0 0,.slice none 0 0,.int .i64 0] Ac CC rfl rfl rfl rfl) rfl
      (Wj Yu (D2 (us:=[_,_,_,_,_,_]) Ac rfl rfl rfl rfl rfl rfl g4 rfl) (λ_ _ h=>h) λw1 hp=>?_))))))
     have ay:Put W w1 au [.bool true,.int .i64 n,.slice none 0 0,.slice none 0 0,.slice none 0 0,.int .i64 0]:=hp;have bd:w1.heap[a2.heap.size]? = some (.deferred (some [])):=(ay.fr.block _ bz (λh=>by omega)).trans hk;refine KM Ac rfl rfl rfl rfl rfl (g3.fr ay.fr Ab) λw2 h2 f2=>G0 (DF (Ka (Yt ((f2.block _ (by rw [ay.size];exact bz) (λh=>by omega)).trans bd) λw3 f3=>NB rfl Ac rfl rfl rfl rfl rfl rfl ((ay.blk.fr f2 Ab).fr f3 Ab) (h2.fr f3 Ab) rfl ?_)))
     exact ⟨none,0,none,0,none,0,rfl,Il,GG,mQ (mQ (mQ x ay.fr (λk hk=>by omega)) f2 (λk hk=>by omega)) f3 (λk hk=>by omega)⟩
   . rintro A pre W hA av ⟨s,n,er,a,c,ta,tc,oa,oc,g1,g2,g3,g4,g5,x⟩ hm hk;rw [g1];refine IW (Kb (Yt hk λw3 f3=>NB rfl Ac rfl rfl rfl rfl rfl rfl (g2.fr f3 Ab) (g3.fr f3 Ab) rfl ?_));exact ⟨a,c,ta,tc,oa,oc,rfl,(g4.fr f3 (λb hb e=>hb.2.1 (e▸hm))).wide (λb hb=>⟨hb.1,by have:=f3.size;omega⟩),g5,mQ x f3 (λk hk=>by omega)⟩
 . have hg:BN e p=(nw,D8 e p):=AG hv;rw [hg];generalize D8 e p=k at *;unfold EX.cells at *;refine Gw (args:=[_,_]) func24 ntmps24 rfl rfl (cS (eB [_,_,_,_,_,_,_,_,_,_,_,_] ?_));intro ex ey ao cy ez e0;revert X hs G M;refine eE cy ?_;intro X hs G M;refine eB [_,_,_,_,_,_] ?_;intro e1 e2 aj b0 dn dp;revert ao X hs G M;refine eE b0 ?_;intro ao X hs G M;refine eA [_,_,_,_,_,_] ?_;intro dq dr ak b2 ds dt;revert aj ao X hs G M;refine eE b2 ?_;intro aj ao X hs G M;refine eA [_] ?_;intro du dv al b3 dw dx;revert ak aj ao X hs G M;refine eE b3 ?_;intro ak aj ao X hs G M;refine eK ?_;refine A3 [_,_,_,_,_,_,_,_,_,_,_,_] Ac rfl rfl rfl ao rfl rfl rfl (A3 [_,_,_,_,_,_] Ac rfl rfl rfl aj rfl rfl rfl (cC rfl (HA.out _ Ae Ae Ae) ?_));rintro _ dy ⟨⟨⟩,b4⟩;revert al ak X;refine eE b4 ?_;intro al ak X;refine eK ?_;refine C1 (D3 [_,_,_,_,_,_] Ac CC rfl rfl rfl rfl) (C1 Mv (eS [_,_,_,_,_,_] ak ?_));intro dz a7 b5 _;revert al X;refine eF b5 ?_;intro al X;refine eS [_] al ?_;intro d0 d1 b6 _;revert a7 X;refine eF b6 ?_;intro a7 X;refine eK ?_;refine dU (NB rfl Ac rfl rfl rfl rfl rfl rfl Ae Ae rfl ?_);exact ⟨none,0,none,0,none,0,rfl,Il,GG,X⟩
noncomputable def CM (es:List EX) (L:List AtV) (s n:BA) (p:PG):(VdV×Int)×List AtV:=
 if Cv s=true then match Tc es n with
  | none=>((nw,21),L)
  | some i=>match es[i]? with
   | none=>((nw,21),L)
   | some e=>if (BN e p).2≠0 then ((nw,(BN e p).2),L) else (((BN e p).1,0),MP L s n (BN e p).1.ok)
 else ((nw,3),L)
def SubR (M X:nP) (bb:Nat) (es:List EX) (r:(VdV×Int)×List AtV) (w:wD):Ending->wD->Prop:=λe w'=> ∃a c ta tc oa oc,e = .returned (.tuple #[.agg (r.1.1.row a c ta tc oa oc).toArray,.int .i64 r.1.2])/\r.1.1.st.sits (λb=>w.heap.size<=b/\b<w'.heap.size) w' a ta oa/\r.1.1.st.small /\
 ∃M':nP,(∀k,M k->M' k)/\(∀k,M' k->M k\/(w.heap.size<=k/\k<w'.heap.size))/\BkAt M' X w' bb es r.2/\Fr M w w'
def SubR.ret {X:nP} {r:(VdV×Int)×List AtV} (h:SubR S X G es r w e w'):∃v,e = .returned v:=by
 obtain ⟨_,_,_,_,_,_,h,-⟩:=h;exact ⟨_,h⟩
def II {X:nP} {L:List AtV} {v:VdV} {k:Int} {ta oa:oA} {c N:Nat} (U:BkAt S X w G es L) (x:Ext w w') (V:v.st.sits (λb=>w.heap.size<=b/\b<w'.heap.size) w' a ta oa) (Y:v.st.small) :
 SubR S X G es ((v,k),L) w (.returned (.tuple #[.agg (v.row a c ta N oa n).toArray,.int .i64 k])) w':=
 ⟨a,c,ta,N,oa,n,rfl,V,Y,S,λ_ h=>h,λ_ h=>iG h,U.ext x,mG x⟩
def NC {n:BA} {i:Nat} (h:Tc es n=some i):∃e,es[i]? = some e/\e.name=n/\Ie es n=i:=by
 have G:=h;unfold Tc at h;obtain ⟨M,N,-⟩:=List.findIdx?_eq_some_iff_getElem.1 h;exact ⟨_,iE M,by simpa using N,by unfold Ie;rw [G]⟩
set_option maxHeartbeats 8000000 in
def R8 (M X:nP) (bb:Nat) (es:List EX) (ao:es.length<=1000) (L:List AtV) (s n:BA) (ad:s.length<=9223372036854775807) (p:PG) (ae:Cv s=false\/Tc es n=none) (va:oA) (vc:Nat) (pa:oA) (pc:Nat) (ma:oA) (mc:Nat) (w:wD) (hb:BkAt M X w bb es L) :
 Calls prog 14 #[pt bb,str s,str n,.agg (p.cells va vc pa pc ma mc).toArray] w (SubR M X bb es (CM es L s n p) w):=by
 have G:=Ne w;have HB:=iF hb;obtain ⟨ea,ec,r,V,h2,Y,-,-,-⟩:=hb;have HN:=iF (λw1=>KK s w1 ad);have HF:=iF (λw1 h h2=>PS bb es Ab n X ea ec (.map (some r)) w1 h rfl h2);cases hq:Cv s
 . have hv:CM es L s n p=((nw,3),L):=by unfold CM;rw [At (by simp [hq])]
   rw [hv];rw [hq] at HN;refine Ad func14 ntmps14 rfl rfl (cS (eB [_,_,_,_,_,_] ?_));intro b1 w2 _ x5 p6 z7;have G:=G.ext x5;refine eA [_,_,_,_,_,_] ?_;intro b8 w9 U af ap aq;have G:=G.ext af;refine eK ?_;refine C1 (Fq Ac rfl rfl) (kC (HN.out _) ?_);rintro _ ar ⟨⟨⟩,ag⟩;revert U G;refine eE ag ?_;intro U G;refine eK ?_;refine C1 (xB [_,_,_,_,_,_]) (eS [_,_,_,_,_,_] U ?_);intro au av f21 _;have G:=G.fr f21 Ab;refine eK ?_;refine C6 rfl Ac rfl rfl rfl Ae rfl rfl ?_;exact II (v:=nw) HB.out G Il GG
 . have O:=ae.resolve_left (by simp [hq]);have hv:CM es L s n p=((nw,21),L):=by unfold CM;rw [AG hq,O]
   have hi:Ie es n = -1:=by unfold Ie;rw [O]
   rw [hv];rw [hq] at HN;rw [hi] at HF;refine Ad func14 ntmps14 rfl rfl (cS (eB [_,_,_,_,_,_] ?_));intro aw ax _ ah ay az;revert G V Y;refine eE ah ?_;intro G V Y;refine eA [_,_,_,_,_,_] ?_;intro a0 a1 N Z ai aj;revert G V Y;refine eE Z ?_;intro G V Y;refine eK ?_;refine C1 (Fq Ac rfl rfl) (kC (HN.out _) ?_);rintro _ ak ⟨⟨⟩,aa⟩;revert N G V Y;refine eE aa ?_;intro N G V Y;refine kC (HF.out _ Ae Ae) ?_;rintro _ al ⟨⟨⟩,ab⟩;revert N G;refine eE ab ?_;intro N G;refine eK ?_;refine C1 (xB [_,_,_,_,_,_]) (eS [_,_,_,_,_,_] N ?_);intro am an ac _;have G:=G.fr ac Ab;refine eK ?_;refine C6 rfl Ac rfl rfl rfl Ae rfl rfl ?_;exact II (v:=nw) HB.out G Il GG
def Ux:Except Int Rn->Bool
 | .error e=>decide (e ≠ -1)
 | .ok _=>true
def IQ (g:PG) (s:SV) (f d:Nat):Except Int Rn:=AH (Ax g.procs d) false g.main ⟨CO g.vars s g.vars.length,f⟩
def P4 {g:PG} {s:SV} {f d:Nat} (h:Ux (IQ g s f d)=true):DR g s f=IN s f (IQ g s f d):=by
 unfold DR;have M:=PZ g s f;generalize Classical.choose _=G at *;have N:IQ g s f d≠.error (-1):=λe=>by rw [e] at h;simp [Ux] at h
 have k1:=LeX.blockN (ps:=g.procs) (Nat.le_max_left G d) false g.main ⟨CO g.vars s g.vars.length,f⟩ M;have O:=LeX.blockN (ps:=g.procs) (Nat.le_max_right G d) false g.main ⟨CO g.vars s g.vars.length,f⟩ N;rw [<-k1,O];rfl
def TG (a b:SV):Bool:=decide (a.cells=b.cells)&&(decide (a.tin=b.tin)&&decide (a.tout=b.tout))
def sameSB_iff {a:SV}:TG a b=true↔a=b:=by
 obtain ⟨h,G,a3⟩:=a;obtain ⟨M,N,O⟩:=b;simp [TG]
def fU (g p:PG) (f d:Nat):List SV->Option Bool
 | []=>some true
 | s::l=>
  if Ux (IQ g s f d)=true then
   if (IN s f (IQ g s f d)).err≠0 then fU g p f d l
   else if Ux (IQ p (IN s f (IQ g s f d)).st f d)=true then
    if (IN (IN s f (IQ g s f d)).st f (IQ p (IN s f (IQ g s f d)).st f d)).err=0/\TG (IN (IN s f (IQ g s f d)).st f (IQ p (IN s f (IQ g s f d)).st f d)).st s=true then fU g p f d l
    else some false
   else none
  else none
def P5 {g p:PG} {f d:Nat} {q:Bool}:∀(l:List SV) (n:Int),fU g p f d l=some q->(Wu g p f l n).ok=q
 | [],n,h=>by
  simp only [fU,iL] at h;rw [<-h];rfl
 | s::l,n,h=>by
  unfold fU at h;split at h
  . rename_i N;rw [Nz,P4 N];split at h
    . rename_i M;rw [AG M];exact P5 l n h
    . rename_i M;rw [At M];split at h
      . rename_i O;rw [P4 O];split at h
        . rename_i G;rw [AG ⟨G.1,sameSB_iff.1 G.2⟩];exact P5 l _ h
        . rename_i G;rw [At (λe=>G ⟨e.1,sameSB_iff.2 e.2⟩)];simpa using h
      . cases h
  . cases h
def pG (k:Int):PG:=⟨[⟨[120],1,0⟩],[],.mk 57 0 [] [.mk k 0 [] [.mk 2 0 [120] [],.mk 1 1 [] []]]⟩
def e50:EX:=⟨[105,110,99],5,9,⟨1,0,0⟩,pG 40⟩
def K4:e50.valid:=of_decide_eq_true AU
def fV:D8 e50 (pG 40)=0:=by
 have h:(pG 40).acc:=of_decide_eq_true AU;unfold D8;rw [At (λh=>h K4),At (by rw [h.1,h.2.1];simp),h.2.2];exact AG rfl
def fW:D8 e50 (pG 41)=0:=by
 have h:(pG 41).acc:=of_decide_eq_true AU;unfold D8;rw [At (λh=>h K4),At (by rw [h.1,h.2.1];simp),h.2.2];exact AG rfl
def go40:(BN e50 (pG 40)).2=0/\(BN e50 (pG 40)).1.ok=false:=by
 unfold BN;rw [At (λh=>h fV)];exact ⟨rfl,P5 (d:=5) _ _ AU⟩
def go41:(BN e50 (pG 41)).2=0/\(BN e50 (pG 41)).1.ok=true:=by
 unfold BN;rw [At (λh=>h fW)];exact ⟨rfl,P5 (d:=5) _ _ AU⟩
def L50:List AtV:=[⟨[97,110,110],[105,110,99],false⟩,⟨[97,110,110],[105,110,99],true⟩,⟨[98,111,98],[105,110,99],true⟩]
def gR:CM [e50] [] [97,110,110] [105,110,99] (pG 40)=(((BN e50 (pG 40)).1,0),L50.take 1):=by
 have G:Tc [e50] [105,110,99]=some 0:=by kernel_rfl
 unfold CM;rw [AG AU,G];show (if (BN e50 (pG 40)).2≠0 then _ else _)=_;rw [At (λh=>h go40.1),go40.2];rfl
def gS:CM [e50] (L50.take 1) [97,110,110] [105,110,99] (pG 41)=(((BN e50 (pG 41)).1,0),L50.take 2):=by
 have G:Tc [e50] [105,110,99]=some 0:=by kernel_rfl
 unfold CM;rw [AG AU,G];show (if (BN e50 (pG 41)).2≠0 then _ else _)=_;rw [At (λh=>h go41.1),go41.2];rfl
def gT:CM [e50] (L50.take 2) [98,111,98] [105,110,99] (pG 41)=(((BN e50 (pG 41)).1,0),L50):=by
 have G:Tc [e50] [105,110,99]=some 0:=by kernel_rfl
 unfold CM;rw [AG AU,G];show (if (BN e50 (pG 41)).2≠0 then _ else _)=_;rw [At (λh=>h go41.1),go41.2];rfl
def pts50:CE L50 [97,110,110] (GI [e50])=5/\CE L50 [98,111,98] (GI [e50])=5/\Es L50 [97,110,110] [105,110,99]=2/\G5 (Oo L50 (GI [e50])) L50=[[98,111,98],[97,110,110]]:=⟨by kernel_rfl,by kernel_rfl,by kernel_rfl,by kernel_rfl⟩
def Yx {g:PG} (M:g.wf) (G:g.acc) {s:SV} (N:FitsP g.vars s) (O:s.rng) (f:Nat) (h:(DR g s f).err=0):(DR g.pinv (DR g s f).st f).err=0/\(DR g.pinv (DR g s f).st f).st=s:=by
 obtain ⟨d,U⟩:∃d,DR g s f=IN s f (IQ g s f d):=⟨_,rfl⟩;rw [U] at h ⊢;cases hx:IQ g s f d with
 | error k=>
  rw [hx] at h;have V:k=0:=h;rw [V] at hx;exact absurd hx (Nr (PX g.procs d) false g.main _)
 | ok r=>
  obtain ⟨-,-,-,X,Y,-,Z⟩:=R2 M G.1 G.2.1 G.2.2 N O hx;have key:IQ g.pinv r.st.sv f d = .ok X:=by
   have:=VN false (Xk G.1) d false (MI G.1);exact (congrFun this _).trans Y
  show (DR g.pinv r.st.sv f).err=0/\(DR g.pinv r.st.sv f).st=s;rw [P4 (d:=d) (by rw [key];rfl),key];exact ⟨rfl,Z⟩
def P6 {g:PG} (G:g.wf) (M:g.acc) (f:Nat):∀(l:List SV) (n:Int),(∀s∈l,FitsP g.vars s/\s.rng)->(Wu g g.pinv f l n).ok=true
 | [],_,_=>rfl
 | s::l,n,h=>by
  rw [Nz];obtain ⟨O,U⟩:=h s (jx ..);split
  . exact P6 G M f l n (λx N=>h x (js _ N))
  . rename_i V;rw [AG (Yx G M O U f (Decidable.not_not.1 V))];exact P6 G M f l _ (λx N=>h x (js _ N))
def Wk {e:EX} (M:e.g.wf) (h:e.valid):(BN e e.g.pinv).2=0/\(BN e e.g.pinv).1.ok=true:=by
 have N:D8 e e.g.pinv=0:=by
  unfold D8;rw [At (not_not_intro h),At (by simp [h.2.2.1.1,h.2.2.1.2.1]),h.2.2.1.2.2];exact AG rfl
 unfold BN;rw [At (not_not_intro N)];exact ⟨rfl,P6 M h.2.1 _ _ _ (λs G=>⟨Oz s G,Yf s G⟩)⟩
def Yy (k:lB) (v z:Value) (kvs:List (lB×Value)):CK (EB (Gn kvs k v) k) z false=v:=by simp [CK,W4]
def R9 {r:Nat} {L:List AtV} {n:BA} {ok:Bool} {bf:BA->Nat} (hm:S r) (h1:MapB w' r ((EP (Bo L) s).map λt=>(t,.map (some (bf t))))) (hs:S (bf s)/\bf s≠r/\MapB w' (bf s) (G6 (L++[⟨s,n,ok⟩]) s))
 (U:∀t∈Bo L,t≠s->S (bf t)/\bf t≠r/\bf t≠bf s/\MapB w' (bf t) (G6 L t)) (hj:∀t∈Bo L,t≠s -> ∀u∈Bo L,u≠s->bf t=bf u->t=u):RecAt S w' r (L++[⟨s,n,ok⟩]):=by
 have V:Bo (L++[⟨s,n,ok⟩])=EP (Bo L) s:=LB ..;have h:∀t,t∈EP (Bo L) s->t=s\/(t∈Bo L/\t≠s):=λt G=>by
  by_cases e:t=s
  . exact iG e
  . exact iH ⟨(mem_addN.1 G).resolve_right e,e⟩
 refine ⟨bf,by rw [V];exact h1,hm,λt G=>?_,λt G u X e=>?_⟩
 . rw [V] at G;rcases h t G with rfl|⟨O,N⟩
   . exact hs
   . obtain ⟨k1,k2,-,k4⟩:=U t O N;exact ⟨k1,k2,by rw [VB L (λe=>N e.symm)];exact k4⟩
 . rw [V] at G X;rcases h t G with rfl|⟨O,N⟩
   . rcases h u X with rfl|⟨Y,Z⟩
     . rfl
     . exact absurd e.symm (U u Y Z).2.2.1
   . rcases h u X with rfl|⟨Y,Z⟩
     . exact absurd e (U t O N).2.2.1
     . exact hj t O N u Y Z e
set_option maxHeartbeats 8000000 in
def Sa (M X:nP) (bb:Nat) (es:List EX) (fa:es.length<=1000) (L:List AtV) (hL:L.length<=1000000) (s n:BA) (cw:s.length<=9223372036854775807) (hq:Cv s=true) (e:EX) (i:Nat) (hi:Tc es n=some i) (he:es[i]? = some e) (hw:e.wf) (cx:e.fuel<=10000) (p:PG) (hp:p.wf) (cy:p.vars.length<=1000000) (S:nP) (va:oA) (vc:Nat) (pa:oA) (pc:Nat) (ma:oA) (mc:Nat) (w:wD)
 (hb:BkAt M X w bb es L) (Y:p.sits S w va pa ma) (Z:PDsC S w p.procs pa) (cz:p.vars.length<=vc) :
 Calls prog 14 #[pt bb,str s,str n,.agg (p.cells va vc pa pc ma mc).toArray] w (SubR M X bb es (CM es L s n p) w):=by
 have X0:=Ne w;have hv:CM es L s n p=if (BN e p).2≠0 then ((nw,(BN e p).2),L) else (((BN e p).1,0),MP L s n (BN e p).1.ok):=by
  unfold CM;rw [AG hq,hi];simp only [he]
 obtain ⟨-,-,-,c0⟩:=NC hi;have fb:=(List.getElem?_eq_some_iff.1 he).1;rw [hv];have HB:=iF hb;obtain ⟨ea,ec,r,O,h2,h3,h4,h5,h6⟩:=hb;have HN:=iF (λw1=>KK s w1 cw);rw [hq] at HN;have HF:=iF (λw1 h h2=>PS bb es Ab n X ea ec (.map (some r)) w1 h rfl h2);rw [c0] at HF;obtain ⟨kb,ko,rfl,-,hk⟩:=m5 h3 Ab;obtain ⟨b9,c4,b2,c5,ca,c6,rx,sx⟩:=hk i e he;have HG:=iF (λ(S1 S2 S3:nP) w1 (g1:e.g.sits S1 w1 b9 b2 ca) (c7:PDsC S1 w1 e.g.procs b2) (g2:p.sits S2 w1 va pa ma) (g3:PDsC S3 w1 p.procs pa)=>aM e hw cx p hp cy (λ_=>True) b9 c4 b2 c5 ca c6 va vc pa pc ma mc w1 ⟨g1.wide λ_ _=>trivial,c7.wide λ_ _=>trivial,sx.room⟩ (g2.wide λ_ _=>trivial) (g3.wide λ_ _=>trivial) cz);have q1:=sx.g;have q2:=sx.p;have fc:=O.lt;have c8:=iF h4;have H5:=iF h5;have H6:=iF h6;have H3:=iF h3;have H2:=iF h2;have H1:=iF O;clear h4 h5 h6 h2 hk sx hi hq hv;generalize fd:BN e p=gv at *;obtain ⟨vd,er⟩:=gv;simp only;unfold EX.cells at *;obtain ⟨ac,cb,⟨bk,bl,bm⟩,cc⟩:=vd;refine Ad func14 ntmps14 rfl rfl ?_;refine cS (eB [_,_,_,_,_,_] ?_);intro b1 w2 h4 x5 p6 z7;revert Y Z X0 O h3 rx q1 q2;refine eE x5 ?_;intro Y Z X0 O h3 rx q1 q2;refine eA [_,_,_,_,_,_] ?_;intro b8 w9 aa c9 fe ff;revert h4 Y Z X0 O h3 rx q1 q2;refine eE c9 ?_;intro h4 Y Z X0 O h3 rx q1 q2;refine eK ?_;refine C1 (Fq Ac rfl rfl) ?_;refine kC (HN.out _) ?_;rintro _ fg ⟨⟨⟩,da⟩;revert aa h4 Y Z X0 O h3 rx q1 q2;refine eY da ?_;intro fh aa h4 Y Z X0 O h3 rx q1 q2;refine kC (HF.out _ Ae Ae) ?_;rintro _ cd ⟨⟨⟩,db⟩;revert aa h4 Y Z X0 O h3 rx q1 q2;refine eY db ?_;intro fj aa h4 Y Z X0 O h3 rx q1 q2;refine C1 Pa (cT (Aj (cS (C1 Mv (C1 V3 (cT (DA (Ao (Ai ?_)))))))))
 refine E2 (ι:=Nat×oA×Nat×oA×Nat×oA×Nat) (λy=>[(0,pt bb),(1,str s),(2,str n),(8,pt b8),(11,pt y.1),(12,.int .i64 er)])
  (λy w'=>Blk w' y.1 [.bool ac,.int .i64 cb,.slice y.2.1 bk.length y.2.2.1,.slice y.2.2.2.1 bl.length y.2.2.2.2.1,.slice y.2.2.2.2.2.1 bm.length y.2.2.2.2.2.2,.int .i64 cc]/\(⟨bk,bl,bm⟩:SV).sits (λb=>w.heap.size<=b/\b≠y.1/\b≠b8/\b<w'.heap.size) w' y.2.1 y.2.2.2.1 y.2.2.2.2.2.1/\(⟨bk,bl,bm⟩:SV).small/\Blk w' bb [.slice (some ⟨kb,ko,none⟩) es.length ec,.map (some r)]/\Blk w' b8 [.bool false,.int .i64 0,.slice none 0 0,.slice none 0 0,.slice none 0 0,.int .i64 0]/\Ext w w'/\w.heap.size<=y.1/\y.1<w'.heap.size/\y.1≠b8) ?_ ?_
 . focus
    refine Aq (λwz=>Ext cd wz) 14 (.pure 0 (.pure 1 (.pure 2 (.pure 3 (.pure 4 (.pure 5 (.pure 6 (.pure 7 (.fork 8 (.pure 9 (.pure 10 (.pure 11 (.fork 12 (.fork 13 .tail .none) .none)))) (.fork 12 (.fork 8 (.pure 9 (.pure 10 (.pure 11 (.fork 13 .tail .none)))) .none) .none)))))))))) mixed AU (Aa Ag) ?_;intro dc ce _;have G:(λwz=>Ext cd wz) dc:=ce;simp only at G;have ay:=aa;have az:=h4;have a0:=Y;have a4:=Z;have ah:=O;have bo:=h3;have a5:=rx;have bp:=q1;have bq:=q2;revert aa h4 Y Z X0 O h3 rx q1 q2;refine eY ce ?_;intro fk aa h4 Y Z X0 O h3 rx q1 q2;refine ⟨G,?_⟩;refine eT ?_;refine Tq rfl (BE Ac rfl rfl rfl (λwz V=>(mJ a5 V)) rfl) (Tq rfl (xL [_,_,_,_,_,_] (λwz V=>(mN az V))) ?_);refine AC rfl (AM AU rfl (HG.out _ _ _ _ Ae Ae Ae Ae) (λ_ _ h=>h.ret)) rfl ?_ aFh ?kra5;rintro _ dz ⟨fl,fm,d0,d1,dd,de,⟨⟩,an,d2,cf⟩;revert G aa h4 Y Z X0 O h3 rx q1 q2;refine eY cf ?_;intro d3 G aa h4 Y Z X0 O h3 rx q1 q2;refine ⟨G,?_⟩;refine eT ?_;refine AC rfl (A2 CC rfl) rfl ?_ aFh Ay;rintro _ d4 ⟨d5,rfl,ao⟩;have br:=ao.blk;dsimp only at br;have cg:=ao.ext;have d6:=ao.pos;have d7:=ao.size;revert an G aa h4 Y Z X0 O h3 rx q1 q2;refine eE cg ?_;intro an G aa h4 Y Z X0 O h3 rx q1 q2;refine ⟨G,?_⟩;refine Cq [_,_,_,_,_,_] [_,_,_,_,_,_] rfl Ac rfl rfl rfl rfl rfl rfl br rfl rfl ?_ Ay;intro d8 a6;have d9:=a6.blk;have a7:=a6.fr;have eb:=a6.size;revert an G aa h4;refine eF a7 ?_;intro an G aa h4;clear Y Z;revert X0 O;refine eF a7 ?_;intro X0 O;clear h3 rx q1 q2 a7;refine ⟨G,?_⟩;clear ay az a0 a4 ah bo a5 bp bq G;refine Ar rfl (C1 Pa (Ak ?_));rotate_left;refine AC rfl (A2 CC rfl) rfl ?_ aFh Ay;rintro _ ed ⟨ee,rfl,ap⟩;have aq:=ap.blk;dsimp only at aq;have ch:=ap.ext;have ef:=ap.pos;have eg:=ap.size;revert G aa h4 Y Z X0 O h3 rx q1 q2;refine eE ch ?_;intro G aa h4 Y Z X0 O h3 rx q1 q2;refine ⟨G,?_⟩;refine tC rfl rfl (HG.out _ _ _ _ Ae Ae Ae Ae) ?_;rintro _ eh ⟨ei,ej,df,dg,dh,di,⟨⟩,bs,ek,ci⟩;revert aq G aa h4 Y Z X0 O h3 rx q1 q2;refine eY ci ?_;intro el aq G aa h4 Y Z X0 O h3 rx q1 q2
    refine ⟨G,?_⟩;refine eT ?_;refine Cq [_,_,_,_,_,_] [_,_,_,_,_,_] rfl Ac rfl rfl rfl rfl rfl rfl aq rfl rfl ?_ Ay;intro en a8;have eo:=a8.blk;have a9:=a8.fr;have ep:=a8.size;revert bs G aa h4;refine eF a9 ?_;intro bs G aa h4;clear Y Z;revert X0 O;refine eF a9 ?_;intro X0 O;clear h3 rx q1 q2 a9;refine ⟨G,?_⟩;clear ay az a0 a4 ah bo a5 bp bq G;refine Ar rfl (C1 Pa (Ak ?_));rotate_left
   all_goals exact BQ (_,_,_,_,_,_,_) sC ⟨Ae,nC Ae (λb h=>⟨Ab,by simp only;omega,Ab,Ab⟩),Ae,Ae,Ae,X0,by simp only;omega,by simp only;omega,by simp only;omega⟩
 . clear O h3 h4 aa HN HF HG rx q1 q2 Y Z X0;rintro ⟨dk,a1,c1,a2,c2,a3,c3⟩ w1 ⟨hv,sv,b3,O,U,X0,o1,o2,o3⟩;simp only at hv sv o1 o2 o3;refine nq (m:=[(0,pt bb),(1,str s),(2,str n),(8,pt b8),(11,pt dk),(12,.int .i64 er)]) ?_ sB;rcases Decidable.em (er=0) with b4|b4
   case inr=>
    rw [AG b4];refine eK ?_;refine C1 (xB [_,_,_,_,_,_]) (C1 Mv (eS [_,_,_,_,_,_] U ?_));intro fo fp dl _;revert hv sv O X0;refine eF dl ?_;intro hv sv O X0;refine C1 Pa (cT (AR (As ?_)));refine C6 rfl Ac rfl rfl rfl Ae rfl rfl ?_;exact II (v:=nw) HB.out X0 Il GG
   subst b4;rw [At AN];have HX:=iF X0;have fq:=X0.size;obtain ⟨bf,b5,r2,r3,r4⟩:=c8.out;have dm:=iF b5;have r1:=b5.ext X0;have fs:=r1.lt;clear b5;have N:=r1.is;have hg:=PR L s n;unfold Ic at hg;by_cases ak:s∈Bo L
   . have al:CK (EB ((Bo L).map λs=>(s,Value.map (some (bf s)))) s) (.map none) false = .map (some (bf s)):=by
      rw [FL (λs=>.map (some (bf s))),AG ak];rfl
     obtain ⟨m1,m2,cj⟩:=r3 s ak;have m3:=cj.ext X0;clear cj;have V:MapZ w1 (some (bf s)) (G6 L s):=iH ⟨_,rfl,m3.is⟩;have b6:=iF r3;have ar:=iF r4;cases ad:BC L s n
     . have ae:MP L s n ac=L++[⟨s,n,ac⟩]:=by unfold MP;rw [At (by simp [ad])]
       rw [ad] at hg;have af:=Uj L s n ac;rw [Rk L s n ac ad] at af;have dn:Es L s n<=1000000:=jM (List.countP_le_length ..) hL;have F:Fr (· = bf s) w w1:=mG X0;have ft:=H6.out _ m1;have dp:=H6.out _ r2;rw [ae];clear ae ad X0;refine eK ?_;refine C1 (Dd Ac rfl rfl rfl rfl rfl al (λwz V=>by rw [show wz=_ from V];assumption)) (C1 Mv (C1 (Fx Ac rfl rfl rfl rfl rfl hg (λwz V=>by rw [show wz=_ from V];assumption)) (xA [_,_] ?_)));intro fu fv dq;refine eI [_,_] dq ?_;intro ck ba dr fw fx;revert hv sv O U r1 N m3 V F;refine eE dr ?_;intro hv sv O U r1 N m3 V F;refine eK ?_;refine C1 (Dd Ac rfl rfl rfl rfl rfl al (λwz V=>by rw [show wz=_ from V];assumption)) (C1 (Zx Ac rfl rfl) ?_);refine eK ?_;refine Aq (λwz=>Ext ck wz) 13 (.pure 0 (.pure 1 (.pure 2 (.pure 3 (.pure 4 (.pure 5 (.pure 6 (.pure 7 (.pure 8 (.pure 9 (.pure 10 (.pure 11 (.pure 12 .tail))))))))))))) mixed AU (Aa Ag) ?_;intro ds bt _;have am:(λwz=>Ext ck wz) ds:=bt;simp only at am;have b7:=ba;have bu:=hv;have bv:=sv;have ah:=O;have bc:=U;have cl:=r1;have bn:=N;have cm:=m3;have bw:=V;revert ba hv sv O U r1 N m3 V F;refine eY bt ?_;intro eq ba hv sv O U r1 N m3 V F;refine ⟨am,?_⟩;refine eT ?_;refine Tq rfl (Dd Ac rfl rfl rfl rfl rfl al (λwz V=>MapIs.ext Ae V)) ?_;refine eT ?_;refine Tq rfl (xB [_,_]) ?_;clear am b7 bu bv ah bc cl bn cm bw
       refine Ar rfl (A7 (Fj Ac rfl rfl rfl rfl rfl Ae) (BJ ?_));rintro _ et ⟨au,ai,eu⟩;revert ba hv sv;refine eF ai ?_;intro ba hv sv;have U:=U.fr ai Ab;have r1:=MapB.fr r1 ai (λe=>m2 e.symm);have N:=MapIs.fr N ai (λe=>m2 e.symm);clear m3 V;have F:=mL F ai (λk hk=>iG hk);refine eK ?_;refine eS [_,_,_,_,_,_] U ?_;intro ew ex bd ey;have au:=au.fr bd Ab;revert hv sv r1 N;refine eF bd ?_;intro hv sv r1 N;have F:=mL F bd (λk hk=>iH Ab);refine C1 Pa (cT (AR ?_));refine C6 rfl Ac rfl rfl rfl Ae rfl rfl ?_;rw [af] at au;have be:∀k,X k -> ¬k=bf s:=λk hk e=>(H5.out k hk).1 (e▸m1)
       refine ⟨a1,c1,a2,c2,a3,c3,rfl,sv.wide (λb h=>⟨h.1,Ab⟩),b3,M,λ_ h=>h,λ_ h=>iG h,⟨_,ec,r,H1.out.fr F (be _ H2.out),H2.out,H3.out.fr F be,R9 (bf:=bf) r2 ?_ ⟨m1,m2,au⟩ (λt ht bg=>?_) (λt ht _ u hu _=>ar.out t ht u hu),λk hk=>⟨(H5.out k hk).1,by have:=(H5.out k hk).2;have:=F.size;omega⟩,λk hk=>by have:=H6.out k hk;have:=F.size;omega⟩,F.weaken λk (e:k=bf s)=>by subst e;exact m1⟩
       . unfold EP;rw [AG ak];exact dm.out.fr F (λe=>m2 e.symm)
       . obtain ⟨k1,k2,k3⟩:=b6.out t ht;have cn:bf t≠bf s:=λe=>bg (ar.out t ht s ak e)
         exact ⟨k1,k2,cn,k3.fr F cn⟩
     . have ae:MP L s n ac=L:=by unfold MP;rw [AG ad]
       rw [ad] at hg;rw [ae];refine eK ?_;refine C1 (Dd Ac rfl rfl rfl rfl rfl al (λwz V=>by rw [show wz=_ from V];assumption)) (C1 Mv (C1 (Fx Ac rfl rfl rfl rfl rfl hg (λwz V=>by rw [show wz=_ from V];assumption)) (xA [_,_] ?_)));intro fy fz dt;refine eI [_,_] dt ?_;intro f0 f1 du f2 f3;revert hv sv O U X0 r1 N m3 V;refine eE du ?_;intro hv sv O U X0 r1 N m3 V;refine eK ?_;refine eS [_,_,_,_,_,_] U ?_;intro f4 ez bx e0;revert hv sv O X0;refine eF bx ?_;intro hv sv O X0;clear r1 N m3 V bx;refine C1 Pa (cT (AR ?_));refine C6 rfl Ac rfl rfl rfl Ae rfl rfl ?_;exact II (v:=⟨ac,cb,⟨bk,bl,bm⟩,cc⟩) HB.out X0 (sv.wide (λb h=>⟨h.1,Ab⟩)) b3
   . have co:G6 L s=[]:=by unfold G6;rw [MV ak];rfl
     have al:CK (EB ((Bo L).map λs=>(s,Value.map (some (bf s)))) s) (.map none) false = .map none:=by
      rw [FL (λs=>.map (some (bf s))),At ak];rfl
     have V:MapZ w1 none (G6 L s):=iG ⟨rfl,co⟩;have ad:BC L s n=false:=(KT L s n (by rw [MV ak];simp)).2;have ae:MP L s n ac=L++[⟨s,n,ac⟩]:=by unfold MP;rw [At (by simp [ad])]
     have af:=Uj L s n ac;rw [Rk L s n ac ad] at af;have dn:Es L s n<=1000000:=jM (List.countP_le_length ..) hL;have F:Fr (· = r) w w1:=mG X0;have b6:=iF r3;have ar:=iF r4;have dp:=H6.out _ r2;have f5:bb≠r:=λe=>(H5.out _ H2.out).1 (e▸r2)
     rw [ad] at hg;rw [ae];clear ae ad X0 r3 r4;refine eK ?_;refine C1 (Dd Ac rfl rfl rfl rfl rfl al (λwz V=>by rw [show wz=_ from V];assumption)) (C1 Mv (C1 (Fx Ac rfl rfl rfl rfl rfl hg (λwz V=>by rw [show wz=_ from V];assumption)) (xA [_,_] ?_)));intro f6 f7 dv;refine eI [_,_] dv ?_;intro f8 ag dw f9 ga;revert hv sv O U r1 N V F;refine eE dw ?_;intro hv sv O U r1 N V F;refine eK ?_;refine C1 (Dd Ac rfl rfl rfl rfl rfl al (λwz V=>by rw [show wz=_ from V];assumption)) (C1 (Zy Ac rfl rfl) ?_);refine eK ?_;refine Aw (I3) rfl ?_ aFh;rintro _ e1 ⟨bh,rfl,e2,aj,cp,e3⟩;revert ag hv sv O U r1 N V F;refine eE cp ?_;intro ag hv sv O U r1 N V F;refine A7 (Fj Ac rfl rfl rfl rfl rfl Ae) (BJ ?_);rintro _ bz ⟨ab,bi,e4⟩;revert aj ag hv sv O U;refine eF bi ?_;intro aj ag hv sv O U;clear r1 N;have V:=MapZ.fr V bi (λk hk=>(kO _ hk.symm).elim);have F:=mL F bi (λk hk=>iG hk);refine cT (Aq (λwz=>Ext bz wz) 13 (.pure 0 (.pure 1 (.pure 2 (.pure 3 (.pure 4 (.pure 5 (.pure 6 (.pure 7 (.pure 8 (.pure 9 (.pure 10 (.pure 11 (.pure 12 .tail))))))))))))) mixed AU (Aa Ag) ?_);intro cq b0 _;have bj:(λwz=>Ext bz wz) cq:=b0;simp only at bj;have cu:=ab;have cv:=aj;have dx:=ag;have bu:=hv;have bv:=sv;have ah:=O;have bc:=U;have bw:=V;revert ab aj ag hv sv O U V F;refine eY b0 ?_;intro e5 ab aj ag hv sv O U V F;refine ⟨bj,?_⟩;refine eT ?_;refine Tq rfl (Dd Ac rfl rfl rfl rfl rfl (Yy _ _ _ _) (λwz V=>MapIs.ext (MapB.is Ae) V)) ?_;refine eT ?_;refine Tq rfl (xB [_,_]) ?_;refine Ar rfl (A7 (Fj Ac rfl rfl rfl rfl rfl Ae) (BJ ?_));rintro _ e6 ⟨av,aw,e7⟩;have ab:=ab.fr aw Ab;revert ag hv sv O U;refine eF aw ?_;intro ag hv sv O U;have V:=MapZ.fr V aw (λk hk=>(kO _ hk.symm).elim);have F:=mL F aw (λk hk=>iH Ab);refine eK ?_;refine eS [_,_,_,_,_,_] U ?_;intro cr e8 ax e9;revert av ab;refine eF ax ?_;intro av ab;revert hv sv O;refine eF ax ?_;intro hv sv O;have V:=MapZ.fr V ax (λk hk=>(kO _ hk.symm).elim);have F:=mL F ax (λk hk=>iH Ab);refine C1 Pa (cT (AR ?_))
     refine C6 rfl Ac rfl rfl rfl Ae rfl rfl ?_;rw [co] at af;rw [af] at av;have be:∀k,X k -> ¬k=r:=λk hk e=>(H5.out k hk).1 (e▸r2)
     have ct:=MX (f:=λt=>Value.map (some (bf t))) (g:=λt=>Value.map (some (if t=s then bh else bf t))) (n:=s) (λt ht=>by simp only [At ht]) (Bo L) (Kj L);simp only [if_true] at ct;rw [ct] at ab;have gb:w.heap.size<=bh/\bh<cr.heap.size:=⟨Ab,Ab⟩;have gc:=F.size;refine ⟨a1,c1,a2,c2,a3,c3,rfl,sv.wide (λb h=>⟨h.1,Ab⟩),b3,λk=>M k\/k=bh,λ_ h=>iG h,λk h=>h.imp id (λe=>by omega),⟨_,ec,r,H1.out.fr F (be _ H2.out),H2.out,H3.out.fr F be,R9 (bf:=λt=>if t=s then bh else bf t) (iG r2) ab ⟨?_,?_,?_⟩ (λt ht bg=>?_) (λt ht bg u hu dy e=>?_),λk hk=>⟨λh=>?_,by have:=(H5.out k hk).2;omega⟩,λk hk=>?_⟩,F.weaken λk (e:k=r)=>by subst e;exact r2⟩
     . simp
     . simp only [if_true];omega
     . simp only [if_true];exact av
     . obtain ⟨k1,k2,k3⟩:=b6.out t ht;have:=H6.out _ k1;simp only [At bg,if_true];exact ⟨iG k1,k2,Ab,k3.fr F (λe=>k2 e)⟩
     . simp only [At bg,At dy] at e;exact ar.out t ht u hu e
     . rcases h with h|h
       . exact (H5.out k hk).1 h
       . have:=(H5.out k hk).2;omega
     . rcases hk with hk|hk
       . have:=H6.out k hk;omega
       . omega
def D1:List Int->Int
 | []=>0
 | x::r=>if x≠0 then x else D1 r
def P7 {l:List Int} {j:Nat} (h:j<l.length):D1 (l.drop j)=if l[j]≠0 then l[j] else D1 (l.drop (j+1)):=by
 rw [jd h,D1]
def gU (xs:List Int) (Y:xs.length<=1000) (g c:Nat) (w:wD) (h:Blk w g (AZ xs)):Calls prog 37 #[.slice (some ⟨g,0,none⟩) xs.length c] w λe w'=>e = .returned (.int .i64 (D1 xs))/\Ext w w':=by
 have X:=Ne w;refine Ad func37 ntmps37 rfl rfl (cS (C1 Pa (cN (C1 Pa (cT (Aj (cS (C1 Mv (C1 Pz (C1 Mv (cT ?_)))))))))));refine Au ?_;refine AP (ι:=Nat) (λj=>[(3,.int .i64 0),(6,.slice (some ⟨g,0,none⟩) xs.length c),(7,.int .i64 xs.length),(8,.int .i64 j)])
  (λj w'=>j<=xs.length/\D1 xs=D1 (xs.drop j)/\Blk w' g (AZ xs)/\Ext w w') (λj=>xs.length-j) 0 sB ⟨iT _,rfl,h,X⟩ ?_
 rintro j w1 ⟨Z,G,h,X⟩;by_cases M:j<xs.length
 . have U:Row w1 ⟨g,0+j*1,none⟩ [.int .i64 xs[j]]:=λi v N=>by
    have V:w1.cell? ⟨g,j,none⟩=some (.int .i64 xs[j]):=mM h (by simp [AZ,M]);cases i with
    | zero=>
     simp only [ja,iL] at N;subst N;simpa [ki] using V
    | succ i=>simp at N
   rw [P7 M] at G;generalize xs[j]=x at *;by_cases O:x=0
   . subst O;rw [At AN] at G;refine cS (C1 V3 (cT (Aj (TS (Ao (Ai (Aj (Au (cS (C1 Pi (C1 (UK U) (C1 Pa (cN (C1 Mv (C1 Mv (C1 V2 (cT (LT (Ao (Ah (Ai (Al (C1 V7 (C1 Mv (Ak ?_)))))))))))))))))))))))));exact AA (j+1) sB ⟨Ab,G,h,X⟩ Ab
   . rw [AG O] at G;rw [G];refine kR ?_;exact ⟨rfl,X⟩
 . obtain rfl:j=xs.length:=by omega
   rw [ly] at G;rw [G];refine kR ?_;exact ⟨rfl,X⟩
def Sb (L:List AtV) (ps:List (BA×Int)) (s t:BA):D1 [KV ZB (CE L t ps) (CE L s ps),KV ZB (D6 L s) (D6 L t),KV Ki s t]=Ow L ps s t:=by
 unfold Ow D1 D1 D1 D1;split
 . rfl
 . split
   . rfl
   . split
     . rfl
     . rename_i h;simp at h;exact h.symm
def aN (M X:nP) (V:Nat) (es:List EX) (he:es.length<=1000) (hp:∀e∈es,0<=e.points/\e.points<=1000) (L:List AtV) (hL:L.length<=1000000) (s t:BA) (hs:s∈Bo L) (ht:t∈Bo L) (bx:Nat) (w:wD) (O:BkAt M X w V es L) (hx:Blk w bx [pt V]) :
 Calls prog 36 #[str s,str t,pt bx] w λe w'=>e = .returned (.int .i64 (Ow L (GI es) s t))/\Ext w w':=by
 have N:=Ne w;rw [<-Sb];have HP:=iF (λs w1 h=>Id M X V es he hp L s w1 h);have HT:=iF (λs hs w1 h=>ZA M X V es L hL s hs w1 h);have HO:=iF (λ(a b c:Int) g w1 h=>gU [a,b,c] AN g 3 w1 h);clear hp;refine Ad func36 ntmps36 rfl rfl ?_;refine eK ?_;refine Aq (λY=>Ext w Y) 16 (.pure 0 (.pure 1 (.pure 3 (.pure 4 (.pure 7 (.pure 8 (.pure 10 (.pure 11 (.pure 14 (.pure 15 (.fork 2 (.fork 5 (.fork 6 (.fork 9 (.fork 12 (.fork 13 .tail .none) .none) .none) .none) .none) .none))))))))))) mixed AU (Aa Ag) ?_;intro w1 x2 _;have G:(λY=>Ext w Y) w1:=x2;simp only at G;have ah:=hx;revert O N;refine eE x2 ?_;intro O N;refine ⟨G,?_⟩;refine eT ?_;refine tC rfl rfl (HP.out _ _ Ae) ?_;rintro _ w7 ⟨⟨⟩,x6⟩;revert G O N;refine eE x6 ?_;intro G O N;refine ⟨G,?_⟩;refine tC rfl rfl (HP.out _ _ Ae) ?_;rintro _ ai ⟨⟨⟩,Z⟩;revert G O N;refine eE Z ?_;intro G O N;refine ⟨G,?_⟩;refine tC rfl rfl (Xt _ _ _) ?_;rintro _ aj ⟨⟨⟩,aa⟩;revert G O N;refine eE aa ?_;intro G O N;refine ⟨G,?_⟩;refine tC rfl rfl (HT.out _ Ae _ Ae) ?_;rintro _ ak ⟨⟨⟩,ab⟩;revert G O N;refine eE ab ?_;intro G O N;refine ⟨G,?_⟩;refine tC rfl rfl (HT.out _ Ae _ Ae) ?_;rintro _ al ⟨⟨⟩,ac⟩;revert G N;refine eE ac ?_;intro G N;refine ⟨G,?_⟩;refine tC rfl rfl (Xt _ _ _) ?_;rintro _ am ⟨⟨⟩,ad⟩;revert G N;refine eE ad ?_;intro G N;refine ⟨G,?_⟩;refine Ar rfl (cC rfl (cV _ _ _) ?_);rintro _ an ⟨⟨⟩,ae⟩;have N:=N.ext ae;refine Aw (xS [_,_,_]) rfl ?_ aFh;rintro _ ao ⟨ap,rfl,U,aq⟩;have ar:=U.blk;have af:=U.ext;have N:=N.ext af;refine cC rfl (HO.out _ _ _ _ _ Ae) ?_;rintro _ au ⟨⟨⟩,ag⟩;have N:=N.ext ag;refine kR ?_
 exact ⟨rfl,N⟩
section
variable {lt:α->α->Bool}
def Gc (lt:α->α->Bool) (l:List α):List α:=l.foldl (λa x=>CJ lt x a) []
def TH (l:List α) (x:α):Gc lt (l++[x])=CJ lt x (Gc lt l):=by simp [Gc,List.foldl_append]
def ND (x:α):∀l:List α,(CJ lt x l).length=l.length+1
 | []=>rfl
 | y::r=>by unfold CJ;split<;>simp [ND x r]
def NE:∀l a:List α,(l.foldl (λa x=>CJ lt x a) a).length=a.length+l.length
 | [],a=>rfl
 | x::l,a=>by rw [List.foldl_cons,NE l,ND,iM];omega
def K5 (l:List α):(Gc lt l).length=l.length:=by
 have:=NE (lt:=lt) l [];simpa [Gc] using this
def He (p:List α) (x:α) (q r:List α):List α:=p.reverse++(x::(q++r))
def Yz (p:List α) (x:α) (q r:List α):(He p x q r)[p.length]? = some x:=by unfold He;simp
def YA (y:α) (p:List α) (x:α) (q r:List α):(He (y::p) x q r)[p.length]? = some y:=by unfold He;simp
def OW (y:α) (p:List α) (x:α) (q r:List α):((He (y::p) x q r).set (p.length+1) y).set p.length x=He p x (y::q) r:=by
 unfold He;rw [kI,jk];simp [List.set_append]
def Sd (p:List α) (x:α) (q r:List α):(He p x q r).length=p.length+1+q.length+r.length:=by unfold He;simp;omega
def InsI (lt:α->α->Bool) (x:α) (a p q:List α):Prop:=(CJ lt x a).reverse=(CJ lt x p).reverse++q
def InsI.step {x y:α} {a p q:List α} (h:InsI lt x a (y::p) q) (G:lt x y=true):InsI lt x a p (y::q):=by
 unfold InsI at h ⊢;rw [h,CJ,AG G];simp
def InsI.stop {x:α} {a p q:List α} (h:InsI lt x a p q) (G:∀y r,p=y::r->lt x y=false) (r:List α):He p x q r=(CJ lt x a).reverse++r:=by
 unfold InsI at h;rw [h];cases p with
 | nil=>simp [He,CJ]
 | cons y p=>
  rw [CJ,At (by rw [G y p rfl];simp)];simp [He]
def Wl {z:α} {l:List α} (h:z∈Gc lt l):z∈l:=by
 have:=(MQ (lt:=lt) (z:=z) l []).1 h;simpa using this
def NF (lt:α->α->Bool) (l:List α) (i:Nat):List α:=(Gc lt (l.take i)).reverse++l.drop i
def Se {l:List α} {i:Nat} (h:i<l.length):NF lt l i=He (Gc lt (l.take i)) l[i] [] (l.drop (i+1)):=by
 unfold NF He;rw [jd h,kF]
def OX {l:List α} {i:Nat} (h:i<l.length):NF lt l (i+1)=(CJ lt l[i] (Gc lt (l.take i))).reverse++l.drop (i+1):=by
 unfold NF;rw [iI h,TH]
def NG {l:List α} (h:1<=l.length):NF lt l 1=l:=by
 cases l with
 | nil=>simp at h
 | cons x r=>simp [NF,Gc,CJ]
def K7 {l:List α}:NF lt l l.length=FJ lt l:=by
 unfold NF FJ Gc;simp
def InsI.first (x:α) (a:List α):InsI lt x a a []:=by unfold InsI;simp
end
def ArrT (w:wD) (g:Nat) (xs:List BA):Prop:= ∃tail,Blk w g (xs.map str++tail)
section
variable {tab:Tab} {ty:TypeId} {g:Nat}
def ArrT.lt (h:ArrT w g xs):g<w.heap.size:=by obtain ⟨_,h⟩:=h;exact h.lt
def ArrT.ext (h:ArrT w g xs) (x:Ext w w'):ArrT w' g xs:=by obtain ⟨t,h⟩:=h;exact ⟨t,h.ext x⟩
instance  : LfE w w' (ArrT w g xs) (ArrT w' g xs):=⟨λx h=>Bk.ArrT.ext h x⟩
def ArrT.row1 {j:Nat} {x:BA} (h:ArrT w g xs) (M:xs[j]? = some x):Row w ⟨g,0+j*1,none⟩ [str x]:=λi v G=>by
 obtain ⟨t,h⟩:=h;have N:=(List.getElem?_eq_some_iff.1 M).1;have O:w.cell? ⟨g,j,none⟩=some (str x):=mM h (by rw [iN (by simpa using N),jl,M];rfl);cases i with
 | zero=>
  simp only [ja,iL] at G;subst G;simpa [ki] using O
 | succ i=>simp at G
def Gd {x y:Operand} {t sz j:Nat} {s:Sk} {z:BA} (T:TabOk P tab) (ht:AD tab t=some (s,sz)) (hz:sz=1) (hx:ev l x=some (.pointer (some ⟨g,0+j*1,none⟩))) (hy:ev l y=some (str z)) (hA:ArrT w g xs) (hj:j<xs.length) :
 BG P n l (.store t x y) ty w (GV λw'=>ArrT w' g (xs.set j z)/\Fr (· = g) w w'/\w'.heap.size=w.heap.size):=by
 subst hz;obtain ⟨tl,hb⟩:=hA;have hd:=D2 (P:=P) (n:=n) (l:=l) (ty:=ty) (us:=[str z]) T ht hx hy rfl rfl rfl hb (by rw [mq];simp;omega);unfold BG at hd ⊢;intro a dst pos after gd next Q ha hn b;refine hd a dst pos after gd next Q ha (λv' w' h=>h.elim) (λw' hP=>b w' ?_);have hP':Put w w' g (A8 (xs.map str++tl) (0+j*1) [str z]):=hP;have e:A8 (xs.map str++tl) (0+j*1) [str z]=(xs.set j z).map str++tl:=by
  simp only [A8,jC,lf];rw [List.set_append,AG (by simpa using hj),List.map_set]
 rw [e] at hP';exact ⟨⟨tl,hP'.blk⟩,hP'.fr,hP'.size⟩
end
abbrev bU (bx:Nat):Value:=.func (.func 36) #[] #[.pointer (some ⟨bx,0,none⟩)]
set_option maxHeartbeats 8000000 in
def dV (M X:nP) (bb:Nat) (es:List EX) (he:es.length<=1000) (hp:∀e∈es,0<=e.points/\e.points<=1000) (L:List AtV) (hL:L.length<=1000000) (bx g cap:Nat) (xs:List BA) (hx:∀x∈xs,x∈Bo L) (hn:1<=xs.length/\xs.length<=12) (hg:¬X g /\ ¬M g/\g≠bx) (w:wD) (O:BkAt M X w bb es L) (G:Blk w bx [pt bb]) (N:ArrT w g xs) :
 Calls prog 92 #[.slice (some ⟨g,0,none⟩) xs.length cap,.int .i64 0,.int .i64 xs.length,bU bx] w λe w'=>e = .returned (.tuple #[])/\ArrT w' g (FJ (Oo L (GI es)) xs)/\Fr (· = g) w w':=by
 have F:=mI (· = g) w;have HC:=iF (λs t hs ht w1 h1 h2=>aN M X bb es he hp L hL s t hs ht bx w1 h1 h2);have au:=λs t=>Xr L (GI es) s t
 obtain ⟨g1,g2,g3⟩:=hg;have HX:=iF hx;generalize be:Oo L (GI es)=lt at *;clear hp hx;refine Ad func92 ntmps92 rfl rfl ?_;refine cS (C1 Mv (C1 V7 (C1 Pa (cT ?_))));refine Au ?_;refine AP (ι:=Nat) (λi=>[(0,.slice (some ⟨g,0,none⟩) xs.length cap),(1,.int .i64 0),(2,.int .i64 xs.length),(3,bU bx),(8,.int .i64 i)])
  (λi w'=>1<=i/\i<=xs.length/\ArrT w' g (NF lt xs i)/\BkAt M X w' bb es L/\Blk w' bx [pt bb]/\Fr (· = g) w w') (λi=>xs.length-i) 1 sB ⟨iW _,hn.1,by rw [NG hn.1];exact N,O,G,F⟩ ?_
 clear N O G F;rintro i w1 ⟨bk,hi,N,O,G,F⟩;by_cases ao:i<xs.length
 . have ai:∀z∈Gc lt (xs.take i),z∈Bo L:=λz hz=>HX.out z (jY (Wl hz))
   have a3:=HX.out _ (iS ao);have a4:=K5 (lt:=lt) (xs.take i);rw [jp] at a4;have av:=OX (lt:=lt) ao;rw [Se ao] at N;have bl:(xs.drop (i+1)).length=xs.length-(i+1):=kV ..;have HM:=iF ai;have HN:=iF av;clear ai av HX;generalize bm:Gc lt (xs.take i)=acc at *;generalize xs.drop (i+1)=r at *;generalize xs[i]=x at *;refine Aj (cS (C1 Mv (C1 Mv (C1 V3 (cT (TS (Ao (Ai (Aj (Au (cS ?_)))))))))));refine C1 Mv (C1 Pa (cT ?_));refine Au ?_;refine AP (ι:=List BA×List BA) (λz=>[(0,.slice (some ⟨g,0,none⟩) xs.length cap),(1,.int .i64 0),(2,.int .i64 xs.length),(3,bU bx),(8,.int .i64 i),(9,.int .i64 z.1.length)])
    (λz w'=>InsI lt x acc z.1 z.2/\z.1.length+z.2.length=i/\(∀y∈z.1,y∈Bo L)/\ArrT w' g (He z.1 x z.2 r)/\BkAt M X w' bb es L/\Blk w' bx [pt bb]/\Fr (· = g) w w') (λz=>z.1.length) (acc,[]) (by (refine An rfl ?_;refine An rfl ?_;refine An rfl ?_;refine An rfl ?_;refine An rfl ?_;refine B4 rfl (by go_num) ?_;exact BL)) ⟨InsI.first x acc,by simp only [ji];omega,HM.out,N,O,G,F⟩ ?_
   clear N O G F;rintro ⟨p,q⟩ w2 ⟨hI,ap,ag,N,O,G,F⟩;simp only at hI ap ag N;refine nq (m:=[(0,.slice (some ⟨g,0,none⟩) xs.length cap),(1,.int .i64 0),(2,.int .i64 xs.length),(3,bU bx),(8,.int .i64 i),(9,.int .i64 p.length)]) ?_ sB;have rx:=N.row1 (Yz p x q r);have aw:=Sd p x q r;cases p with
   | nil=>
    have V:=hI.stop (λy r h=>by cases h) r;rw [<-HN.out] at V;rw [V] at N;refine eK ?_;refine Aq (λU=>Ext w2 U) 14 (.pure 0 (.pure 1 (.pure 2 (.pure 3 (.pure 4 (.pure 5 (.pure 6 (.pure 7 (.pure 8 (.pure 9 (.pure 10 (.pure 11 (.pure 12 (.pure 13 .tail)))))))))))))) mixed AU (Aa (Aa (Aa (Af (Af (Aa (Aa (Af Ag)))))))) ?_;intro a5 ax _;have aj:(λU=>Ext w2 U) a5:=ax;simp only at aj;revert O G F N;refine eE ax ?_;intro O G F N;refine ⟨aj,?_⟩;refine Tq rfl Mv (Tq rfl Mv (Tq rfl V5 (Tq rfl Mv (eM rfl (eM rfl (eM rfl (eM rfl (eM rfl (eM rfl (eM rfl (eM rfl ?_)))))))))));refine eM rfl (eM rfl ?_);refine Ar rfl (YP (YP (C1 bB (cT (Ba rfl (Ca (AB (AB (A0 (Ah (Ai ?_)))))))))));refine Al (C1 Mv (C1 V7 (C1 Pa (Ak ?_))));exact AA (i+1) sB ⟨Ab,Ab,N,O,G,F⟩ Ab
   | cons y p=>
    have ry:=N.row1 (YA y p x q r);have ay:=OW y p x q r;have az:=iF (HC.out x y a3 (ag y AN));have ad:=au x y;have ak:∀z∈p,z∈Bo L:=λz hz=>ag z (by simp [hz])
    have Y:jP .i64 ((p.length:Int)+1-1)=(p.length:Int):=by rw [Int.add_sub_cancel];exact iO _ (by simp only [iM] at ap;omega)
    have HI:=iF hI;have a6:=iF ak;simp only [iM] at rx aw ap;clear ag hI ak au;refine nq (m:=[(0,.slice (some ⟨g,0,none⟩) xs.length cap),(1,.int .i64 0),(2,.int .i64 xs.length),(3,bU bx),(8,.int .i64 i),(9,.int .i64 ((p.length:Int)+1))]) ?_ sB;generalize Ow L (GI es) x y=cv at *;by_cases ae:lt x y=true
    . rw [ae] at ad;have a7:cv<0:=of_decide_eq_true ad;have a8:=HI.out.step ae;clear HI ad;generalize He (y::p) x q r=row at *;refine eK ?_;refine Aq (λU=>Ext w2 U) 14 (.pure 0 (.pure 1 (.pure 2 (.pure 3 (.pure 4 (.pure 5 (.pure 6 (.pure 7 (.pure 8 (.pure 9 (.pure 10 (.pure 11 (.pure 12 (.pure 13 .tail)))))))))))))) mixed AU (Aa (Aa (Aa (Af (Af (Aa (Aa (Af Ag)))))))) ?_;intro a9 a0 _;have al:(λU=>Ext w2 U) a9:=a0;simp only at al;have Z:=rx;have aa:=ry;revert O G F rx ry N;refine eE a0 ?_;intro O G F ry rx N;refine ⟨al,?_⟩;refine Tq rfl Mv (Tq rfl Mv (Tq rfl V5 (Tq rfl Mv (eN rfl (Av rfl) (eN rfl (Av rfl) (eN rfl (Av rfl) (eN rfl (AK Ac rfl rfl rfl rfl Ab Ab) (eN rfl (Ap Ac rfl rfl rfl (λU hz=>mO (mJ Z hz) rfl)) (eN rfl (Av rfl) (eN rfl (Av rfl) (eN rfl (AL (c:=(p.length:Int)) rfl rfl Y) ?_)))))))))));refine eN rfl (AK Ac rfl rfl rfl rfl Ab Ab) (eN rfl (Ap Ac rfl rfl rfl (λU hz=>mO (mJ aa hz) rfl)) ?_);refine Ar rfl (bD ?_);refine Aw (A9 (fi:=[]) (ca:=[pt bx]) AU rfl rfl (az.out _ Ae Ae) (λ_ _ h=>⟨_,h.1⟩)) rfl ?_ aFh;rintro _ ah ⟨⟨⟩,ba⟩;revert O G F rx ry N;refine eE ba ?_;intro O G F ry rx N;refine eK ?_;refine E9 (λU=>Ext ah U) (λU=>Fr (λx=>x=g) ah U) [2,3,4,15,16,17] [2,3,4] 15 16 (.free 2 (.free 3 (.free 4 (.pure 0 (.pure 1 (.pure 5 (.pure 6 (.pure 7 (.pure 8 (.pure 9 (.pure 10 (.pure 11 (.pure 12 (.pure 13 (.pure 14 (.put 15 (.tail 16))))))))))))))))) (λ_ h=>mG h) mixed AU (Af (Aa (Aa (Af (Af (Aa (Aa (Af Ag)))))))) ?_;intro a1 aq _;have ar:(λU=>Ext ah U) a1:=aq;simp only at ar;have ac:(λU=>Fr (λx=>x=g) ah U) a1:=mG aq;simp only at ac;have Z:=rx;have aa:=ry;revert O G F N;refine eE aq ?_;intro O G F N;refine Bp Ae rfl (Av rfl) rfl (Bp Ae rfl (Av rfl) rfl (Bp Ae rfl (AL (c:=(p.length:Int)) rfl rfl Y) rfl (Am Ae rfl (Av rfl) rfl (Am Ae rfl (Av rfl) rfl (Am Ae rfl (Av rfl) rfl (Am Ae rfl (Av rfl) rfl (Am Ae rfl (AL (c:=(p.length:Int)) rfl rfl Y) rfl (Am Ae rfl (AK Ac rfl rfl rfl rfl Ab Ab) rfl ?_))))))));refine Am Ae rfl (Ap Ac rfl rfl rfl (λU hz=>mO (mJ aa hz) rfl)) rfl (Am Ae rfl (Av rfl) rfl (Am Ae rfl (Av rfl) rfl ?_))
      refine Am Ae rfl (AK Ac rfl rfl rfl rfl Ab Ab) rfl (Am Ae rfl (Ap Ac rfl rfl rfl (λU hz=>mO (mJ Z hz) rfl)) rfl (Am Ae rfl (AK Ac rfl rfl rfl rfl Ab Ab) rfl (DD rfl (Gd (j:=p.length+1) (z:=y) Ac rfl rfl rfl rfl Ae Ab) (BJ ?_))));rintro _ bf ⟨bg,ab,bh⟩;have ac:=ac.fr ab Ab;have O:=BkAt.fr O ab (λk hk e=>by (rcases hk with hk|hk;exact g1 (e▸hk);exact g2 (e▸hk)));have G:=mH G ab (λe=>g3 e.symm);have F:=F.fr ab Ab;clear rx ry N ab;refine ⟨Ae,?_⟩;refine DB rfl (C1 Pi (A7 (Gd (j:=p.length) (z:=x) Ac rfl rfl rfl rfl Ae (by rw [kg];omega)) (BJ ?_)));rintro _ bi ⟨am,af,bj⟩;have O:=BkAt.fr O af (λk hk e=>by (rcases hk with hk|hk;exact g1 (e▸hk);exact g2 (e▸hk)));have G:=mH G af (λe=>g3 e.symm);have F:=F.fr af Ab;refine eK ?_;refine C1 (AL (c:=(p.length:Int)) rfl rfl Y) (C1 Pa (Ak ?_));rw [ay] at am;exact AA (p,y::q) sB ⟨a8,by simp only [iM];omega,a6.out,am,O,G,F⟩ AN
    . rw [Bool.not_eq_true] at ae;rw [ae] at ad;have a7:¬cv<0:=of_decide_eq_false ad;have V:=HI.out.stop (λy' r' h=>by simp only [jw] at h;rw [<-h.1];exact ae) r;rw [<-HN.out] at V;rw [V] at N;clear HI ad ay;refine eK ?_;refine Aq (λU=>Ext w2 U) 14 (.pure 0 (.pure 1 (.pure 2 (.pure 3 (.pure 4 (.pure 5 (.pure 6 (.pure 7 (.pure 8 (.pure 9 (.pure 10 (.pure 11 (.pure 12 (.pure 13 .tail)))))))))))))) mixed AU (Aa (Aa (Aa (Af (Af (Aa (Aa (Af Ag)))))))) ?_;intro bc a2 _;have an:(λU=>Ext w2 U) bc:=a2;simp only at an;have Z:=rx;have aa:=ry;revert O G F N;refine eE a2 ?_;intro O G F N;refine ⟨an,?_⟩;refine Tq rfl Mv (Tq rfl Mv (Tq rfl V5 (Tq rfl Mv (eN rfl (Av rfl) (eN rfl (Av rfl) (eN rfl (Av rfl) (eN rfl (AK Ac rfl rfl rfl rfl Ab Ab) (eN rfl (Ap Ac rfl rfl rfl (λU hz=>mO (mJ Z hz) rfl)) (eN rfl (Av rfl) (eN rfl (Av rfl) (eN rfl (AL (c:=(p.length:Int)) rfl rfl Y) ?_)))))))))));refine eN rfl (AK Ac rfl rfl rfl rfl Ab Ab) (eN rfl (Ap Ac rfl rfl rfl (λU hz=>mO (mJ aa hz) rfl)) ?_);refine Ar rfl (bD ?_);refine Aw (A9 (fi:=[]) (ca:=[pt bx]) AU rfl rfl (az.out _ Ae Ae) (λ_ _ h=>⟨_,h.1⟩)) rfl ?_ aFh;rintro _ bn ⟨⟨⟩,bd⟩;revert O G F N;refine eE bd ?_;intro O G F N;refine bD (C1 V3 (C1 bC (cT (YN (Ca (AB (AB (A0 (Ah (Ai (Al ?_)))))))))));refine C1 Mv (C1 V7 (C1 Pa (Ak ?_)))
      exact AA (i+1) sB ⟨Ab,Ab,N,O,G,F⟩ Ab
 . obtain rfl:i=xs.length:=by omega
   rw [K7] at N;refine Aj (cS (C1 Mv (C1 Mv (C1 V3 (cT (DA (Ca (AB (AB (A0 (Bm rfl ?_)))))))))));exact ⟨rfl,N,F⟩
set_option maxHeartbeats 8000000 in
def aO (f:Value) (a:oA) (c:Nat) (w:wD):Calls prog 92 #[.slice a 0 c,.int .i64 0,.int .i64 0,f] w λe w'=>e = .returned (.tuple #[])/\Ext w w':=by
 have X:=Ne w;refine Ad func92 ntmps92 rfl rfl (cS (C1 Mv (C1 V7 (C1 Pa (cT ?_)))));refine Au ?_;refine AP (ι:=Unit) (λ_=>[(2,.int .i64 0),(8,.int .i64 1)]) (λ_ w'=>Ext w w') (λ_=>0) () sB X ?_;rintro _ w1 X;refine Aj (cS (C1 Mv (C1 Mv (C1 V3 (cT (LT (Ca (AB (AB (A0 (Bm rfl ?_)))))))))));exact ⟨rfl,X⟩
def IJ (n:Nat) (h:n<=255) (w:wD):Calls prog 65 #[.int .u64 n] w λe w'=> ∃k:Int,e = .returned (.int .i64 k)/\Ext w w':=by
 have X:=Ne w;have G:Hid (∀w1,Calls prog 101 #[.int .u64 n] w1 λe w'=> ∃k:Int,e = .returned (.int .i64 k)/\Ext w1 w'):=iF λw1=>(Tryz.bits_Len64 n w1 Ab Ab).mono λ_ _ ⟨M,h2⟩=>⟨_,M,by rw [h2];exact Ne _⟩
 refine Ad func65 ntmps65 rfl rfl (eK ?_);refine Aw (AM AU rfl (G.out _) (λ_ _ ⟨_,h⟩=>⟨_,h.1⟩)) rfl ?_ aFh;rintro _ O ⟨k1,⟨⟩,N⟩;have X:=X.ext N;refine kR ?_;exact ⟨_,rfl,X⟩
def dW (x y:BA) (w:wD):Calls prog 131 #[str x,str y] w λe w'=>e = .returned (.bool (Ki x y))/\Ext w w':=by
 have X:=Ne w;unfold Ki;refine Ad func131 ntmps131 rfl rfl (kC (Jn _ _) ?_);rintro _ G ⟨⟨⟩,h⟩;have X:=X.ext h;refine eK ?_;refine C1 (Km rfl rfl) (kR ?_);exact ⟨rfl,X⟩
set_option maxHeartbeats 8000000 in
def TI (M X:nP) (O:Nat) (es:List EX) (he:es.length<=1000) (hp:∀e∈es,0<=e.points/\e.points<=1000) (L:List AtV) (hL:L.length<=1000000) (N g cap:Nat) (xs:List BA) (hx:∀x∈xs,x∈Bo L) (hn:1<=xs.length/\xs.length<=12) (hg:¬X g /\ ¬M g/\g≠N) (w:wD) (U:BkAt M X w O es L) (G:Blk w N [pt O]) (V:ArrT w g xs) :
 Calls prog 35 #[.slice (some ⟨g,0,none⟩) xs.length cap,bU N] w λe w'=>e = .returned (.tuple #[])/\ArrT w' g (FJ (Oo L (GI es)) xs)/\Fr (· = g) w w':=by
 have HI:=iF (λw1 h1 h2 h3=>dV M X O es he hp L hL N g cap xs hx hn hg w1 h1 h2 h3);have HQ:Hid (∀(k:Int) w1,BkAt M X w1 O es L->Blk w1 N [pt O]->ArrT w1 g xs->Calls prog 64 #[.slice (some ⟨g,0,none⟩) xs.length cap,.int .i64 0,.int .i64 xs.length,.int .i64 k,bU N] w1 λe w'=>e = .returned (.tuple #[])/\ArrT w' g (FJ (Oo L (GI es)) xs)/\Fr (· = g) w1 w'):=iF λk w1 U G V=>by
  have F:=mI (· = g) w1;refine Ad func64 ntmps64 rfl rfl (cS (C1 Pa (cN (C1 Pa (cT ?_)))));refine Au ?_;refine AP (ι:=Unit) (λ_=>[(0,.slice (some ⟨g,0,none⟩) xs.length cap),(1,.int .i64 0),(2,.int .i64 xs.length),(3,.int .i64 k),(4,bU N)]) (λ_ w'=>ArrT w' g xs/\BkAt M X w' O es L/\Blk w' N [pt O]/\Fr (· = g) w1 w') (λ_=>0) () sB ⟨V,U,G,F⟩ ?_;rintro _ w2 ⟨V,U,G,F⟩;refine eK ?_;refine C1 (AL rfl rfl (iO _ Ab)) (kC (HI.out _ Ae Ae Ae) ?_);rintro _ ab ⟨⟨⟩,ac,Y⟩;have F:=F.fr Y Ab;refine eK ?_;refine EZ rfl ?_;exact ⟨rfl,Ae,F⟩
 have F:=mI (· = g) w;refine Ad func35 ntmps35 rfl rfl (eK ?_);refine C1 (JJ Ac rfl rfl rfl (JM _ Ab Ab)) (Aw (AM AU rfl (IJ xs.length Ab _) (λ_ _ ⟨_,h⟩=>⟨_,h.1⟩)) rfl ?_ aFh);rintro _ ad ⟨ae,⟨⟩,Z⟩;revert U G V F;refine eE Z ?_;intro U G V F;refine C1 Mv (cC rfl (HQ.out _ _ Ae Ae Ae) ?_);rintro _ af ⟨⟨⟩,ag,aa⟩;have F:=F.fr aa Ab;refine Ak (Bm rfl ?_);exact ⟨rfl,Ae,F⟩
set_option maxHeartbeats 8000000 in
def Sf (f:Value) (a:oA) (c:Nat) (w:wD):Calls prog 35 #[.slice a 0 c,f] w λe w'=>e = .returned (.tuple #[])/\Ext w w':=by
 have O:Hid (∀(k:Int) w1,Calls prog 64 #[.slice a 0 c,.int .i64 0,.int .i64 0,.int .i64 k,f] w1 λe w'=>e = .returned (.tuple #[])/\Ext w1 w'):=iF λk w1=>by
  have X:=Ne w1;refine Ad func64 ntmps64 rfl rfl (cS (C1 Pa (cN (C1 Pa (cT ?_)))));refine Au ?_;refine AP (ι:=Unit) (λ_=>[(0,.slice a 0 c),(1,.int .i64 0),(2,.int .i64 0),(3,.int .i64 k),(4,f)]) (λ_ w'=>Ext w1 w') (λ_=>0) () sB X ?_;rintro _ w2 X;refine eK ?_;refine C1 (AL rfl rfl (iO _ Ab)) (kC (aO _ _ _ _) ?_);rintro _ U ⟨⟨⟩,G⟩;have X:=X.ext G;refine eK ?_;refine EZ rfl ?_;exact ⟨rfl,X⟩
 have X:=Ne w;refine Ad func35 ntmps35 rfl rfl (eK ?_);refine C1 (JJ Ac rfl rfl rfl (JM _ Ab Ab)) (Aw (AM AU rfl (IJ 0 Ab _) (λ_ _ ⟨_,h⟩=>⟨_,h.1⟩)) rfl ?_ aFh);rintro _ V ⟨Y,⟨⟩,M⟩;have X:=X.ext M;refine C1 Mv (cC rfl (O.out _ _) ?_);rintro _ Z ⟨⟨⟩,N⟩;have X:=X.ext N;refine Ak (Bm rfl ?_);exact ⟨rfl,X⟩
def Sg (_:Nat) (_:wD) (vs:lV) (x:BA):Prop:=vs=[str x]
def fX (h:Sg G w vs s):∃u,vs=[u]:=⟨_,h⟩
def YB (K p:List BA):Prop:= ∃S:List BA,S.Perm K/\p <+: S
def NH {α β:Type} (f:α->β):∀(l:List α) (j:Nat) (p:α),l[j]? = some p->(f p::(l.eraseIdx j).map f).Perm (l.map f)
 | [],j,p,h=>by simp at h
 | x::l,0,p,h=>by
  simp only [ja,iL] at h;subst h;simp
 | x::l,j+1,p,h=>by
  have:=NH f l j p (by simpa using h);simp only [List.eraseIdx_cons_succ,jo];exact (List.Perm.swap _ _ _).trans (this.cons _)
set_option maxHeartbeats 8000000 in
def aP (m bm:Nat) (kvs:List (lB×Value)) (Rt:nP) (w:wD) (al:∀k,Rt k->k<w.heap.size) (hR:Rt m/\Rt bm) (p1:Blk w bm [.map (some m)]) (p2:MapB w m kvs) :
 J0 prog 63 [pt bm] Sg Rt (YB (kvs.map (·.1))) (·.Perm (kvs.map (·.1))) w:=by
 intro y J Jx W hK hJ am hY h0;have p1:=p1.fr hK (λe=>e hR.2);have p2:=p2.fr hK (λe=>e hR.1);have HY:=iF hY;have HJ:=iF hJ;have H0:=iF h0;clear hY hJ am h0 al hK;have X:=Ne W;show Calls _ _ #[.func (.yield y) #[] #[],pt bm] W _;refine Ad func63 ntmps63 rfl rfl ?_;refine eK ?_;refine Aw (Lz Ac rfl rfl Ae) rfl ?_ aFh;rintro _ w6 ⟨r1,rfl,h2,h3,h4,x5⟩;have X:=X.ext x5;refine cT ?_;obtain ⟨A,hA⟩:∃A:nP,A=λk=>W.heap.size<=k/\k<w6.heap.size:=⟨_,rfl⟩
 have Y:∀k,A k->W.heap.size<=k/\k<w6.heap.size:=λk G=>by rw [hA] at G;exact G
 have ad:A r1:=by rw [hA];exact ⟨h2,h3⟩
 have hj:J A [] w6:=HJ.out (λ_=>False) A [] W w6 H0.out ⟨X.os,X.tape,X.output,X.size,λk G _=>X.block G⟩ (λ_ h=>h.elim) (λk G=>(Y k G).1) (λk G h=>by have:=Y k h;omega);have hz:=X.size;clear hA p1 p2 H0 X;refine Au ?_;refine AP (ι:=List (lB×Value)×List BA×(nP)) (λ_=>[(0,.func (.yield y) #[] #[]),(5,pt r1)])
  (λx w'=> ∃cur,ItM w' r1 m x.1 cur/\(x.2.1++x.1.map (·.1)).Perm (kvs.map (·.1))/\J x.2.2 x.2.1 w'/\x.2.2 r1/\(∀k,x.2.2 k->W.heap.size<=k/\k<w'.heap.size)/\W.heap.size<=w'.heap.size) (λx=>x.1.length) (kvs,[],A) sB ⟨none,h4,AN,hj,ad,Y,hz⟩ ?_
 clear h4 hj ad Y hz;rintro ⟨M,pre,B⟩ w7 ⟨cur,h4,hp,hj,hB,Z,hz⟩;simp only at h4 hp hj hB Z;cases M with
 | nil=>
  rw [lw,lE] at hp;have X:=Ne w7;refine cS ?_;refine Aw (LA rfl Ae) rfl ?_ aFh;rintro _ av ⟨rfl,rfl⟩;refine C1 Px (cT (Aj (Ba rfl (Ca (AB (AB (A0 (Bm rfl ?_))))))));exact ⟨⟨_,rfl⟩,B,λk h=>(Z k h).1,iG ⟨pre,hp,Ae⟩⟩
 | cons q0 ae=>
  generalize af:q0::ae=M at *;have ag:M≠[]:=by rw [<-af];simp
  have F:=mI (· = r1) w7;have aw:=h4.lt;refine cS ?_;refine Aw (MU rfl Ae ag) rfl ?_ aFh;rintro _ O ⟨U,N,aa,rfl,an,ah⟩;have ax:=ah.size;have F:=F.fr ah Ab;refine eK ?_;refine C1 (Os rfl (λwz hz=>by rw [show wz=_ from hz];assumption)) (C1 Px (C1 Pa (cT ?_)));have ab:=NH (·.1) M U N aa;have ao:(M.eraseIdx U).length<M.length:=by
   have:=(List.getElem?_eq_some_iff.1 aa).1;rw [List.length_eraseIdx];split<;>omega
  obtain ⟨C,hC⟩:∃C:nP,C=λk=>B k\/(w7.heap.size<=k/\k<O.heap.size):=⟨_,rfl⟩
  have ai:∀k,B k->C k:=λk G=>by rw [hC];exact iG G
  have V:∀k,C k->W.heap.size<=k/\k<O.heap.size:=λk G=>by
   rw [hC] at G;rcases G with G|G
   . have:=Z k G;omega
   . omega
  have ap:J C pre O:=HJ.out B C pre w7 O hj (F.weaken λk (e:k=r1)=>by subst e;exact hB) (λk G=>(Z k G).1) (λk G=>(V k G).1) (λk G h=>by rw [hC] at h;exact h.elim id (λh=>by omega));have aj:YB (kvs.map (·.1)) (pre++[N.1]):=⟨_,(show (pre++[N.1]++(M.eraseIdx U).map (·.1)).Perm _ by rw [jk];exact (List.Perm.append_left pre ab).trans hp),List.prefix_append _ _⟩
  have aq:(pre++[N.1]++(M.eraseIdx U).map (·.1)).Perm (kvs.map (·.1)):=by rw [jk];exact (List.Perm.append_left pre ab).trans hp
  clear hC hj hp ab aa F af ag;refine Aj (fS (Uw rfl (Av rfl) rfl (Uw rfl (Av rfl) rfl (My rfl rfl (HY.out C pre N.1 [str N.1] O V ap rfl aj) (λ_ _ h=>by obtain ⟨-,⟨h,-⟩|⟨h,-⟩⟩:=h<;>exact ⟨_,h⟩) rfl ?_))));rintro v w8 ⟨ak,ar⟩;refine W0 (λ⟨_,_,h⟩=>by obtain ⟨⟨_,h⟩,-⟩:=(show (∃v,Ending.outgrown = .returned v)/\_ from h);cases h) rfl ?_;have au:=an.fr ak ⟨λe=>e (iG (ai _ hB)),λe=>e (iH hR.1)⟩;have ay:=ak.size;rcases ar with ⟨⟨⟩,ac⟩|⟨⟨⟩,ac⟩
  . refine C1 Pt (cT (Ba rfl (Ao (Ah ?_))));exact AA (M.eraseIdx U,pre++[N.1],C) sB ⟨_,au,aq,ac,ai _ hB,λk G=>⟨(V k G).1,by have:=(V k G).2;omega⟩,Ab⟩ ao
  . refine eK ?_;refine EZ rfl ?_;exact ⟨⟨_,rfl⟩,C,λk h=>(V k h).1,iH ⟨_,aj,ac⟩⟩
def KeysR (K:List BA) (m:Nat) (w:wD):Ending->wD->Prop:=λe w'=> ∃bm,e = .returned (.func (.func 63) #[] #[.pointer (some ⟨bm,0,none⟩)]) /\
 J0 prog 63 [.pointer (some ⟨bm,0,none⟩)] Sg (λk=>k=m\/k=bm) (YB K) (·.Perm K) w'/\m<w'.heap.size/\w.heap.size<=bm/\bm<w'.heap.size/\Ext w w'
def KeysR.ret {K:List BA} {m:Nat} (h:KeysR K m w e w'):∃v,e = .returned v:=by
 obtain ⟨_,h,-⟩:=h;exact ⟨_,h⟩
set_option maxHeartbeats 8000000 in
def dX (m:Nat) (kvs:List (lB×Value)) (w:wD) (h:MapB w m kvs) :
 Calls prog 34 #[.map (some m)] w (KeysR (kvs.map (·.1)) m w):=by
 have X:=Ne w;have M:=h.lt;refine Ad func34 ntmps34 rfl rfl (cS (eB [_] ?_));intro U V G N Y Z;revert h X;refine eE N ?_;intro h X;refine eK ?_;refine C1 (B6 rfl) (kR ?_);have O:=G.lt;exact ⟨_,rfl,aP m _ kvs _ _ (λk hk=>by omega) ⟨iG rfl,iH rfl⟩ G Ae,Ab,Ab,Ab,X⟩
def NamsR (F:List BA->Prop) (w:wD):Ending->wD->Prop:=λe w'=> ∃a c xs,e = .returned (.slice a xs.length c)/\F xs/\OwnQ strShape w' (λ_=>False) w.heap.size 9 (.slice a xs.length c) xs/\Ext w w'
def NamsR.ret {F:List BA->Prop} (h:NamsR F w e w'):∃v,e = .returned v:=by
 obtain ⟨_,_,_,h,-⟩:=h;exact ⟨_,h⟩
set_option maxHeartbeats 8000000 in
def YC (gf:Nat) (lb:lV) (eg:B0 prog gf=true) (Rt:nP) (ag Fin:List BA->Prop) (hN:∀p,ag p->p.length<=1000000) (w:wD) (am:∀k,Rt k->k<w.heap.size) (an:∀w1,Ext w w1->J0 prog gf lb Sg Rt ag Fin w1) :
 Calls prog 90 #[.slice none 0 0,.func (.func gf) #[] lb.toArray] w (NamsR Fin w):=by
 have HI:=iF an;have HN:=iF hN;have HR:=iF am;have X:=Ne w;refine Gw (args:=[_,_]) func90 ntmps90 rfl rfl (cS (eB [_] ?_));intro b1 w2 h4 x5 p6 z7;replace X:=X.ext x5;refine C1 Pa (cT (Aj (cS (C1 Mv (cT ?_)))));refine Au ?_;refine NA rfl rfl eg (HI.out _ X) (λ_ _ _ _ h=>fX h) (λk G=>by have:=HR.out k G;have:=X.size;omega)
  (λA xs W=> ∃N O,xs.length<=1000000/\Blk W b1 [.slice N xs.length O]/\OwnQ strShape W (λ_=>False) w.heap.size 9 (.slice N xs.length O) xs/\(∀g,(jf N xs.length O).ownBlock=some g -> ¬A g/\w2.heap.size<=g)/\Ext w W)
  (λ_ _ _=>False) ?_ (λ_ _ _ _ _ h=>h.elim) ⟨none,0,iT _,h4,nA,λg U=>by simp [km] at U,X⟩ ?_ ?_ (λ_ _ _ _ _ h=>h.elim)
 . rintro A A' xs W W' ⟨N,O,h0,h1,h2,h3,x⟩ hf hA-ao;exact ⟨N,O,h0,h1.fr hf (λe=>by have:=hA _ e;omega),h2.fr hf (λk G=>⟨id,λe=>(h3 k e).1 G⟩),λg U=>⟨λe=>(h3 g U).1 (ao g (h2.lt U) e),(h3 g U).2⟩,mQ x hf (λk G=>by have:=hA _ G;omega)⟩
 . rintro r A pre x u W hA ah ⟨N,O,ap,j1,j2,j3,V⟩ eu ai;obtain rfl:u=str x:=by simpa [Sg] using eu
   have M:∀g,(jf N pre.length O).ownBlock=some g -> ¬A g/\w2.heap.size<=g/\g<W.heap.size:=λg U=>⟨(j3 g U).1,(j3 g U).2,j2.lt U⟩
   have ae:=HN.out _ ai;rw [iX] at ae;simp only [iM,ji] at ae;have aw:=hA _ ah;have X1:=Ne W;refine Bs rfl Gx (C1 Pa (Ak (Iw (Keeps.of_ext X1) λW2 f2=>?_)))
   replace j1:=j1.fr f2 Ab;replace j2:=j2.fr f2 (λk e=>⟨id,λh=>(M k h).1 (e▸ah)⟩);replace V:=mQ V f2 (λk G=>by omega);have ax:=f2.size;have aj:=iF (show ∀k,A k->w2.heap.size<=k/\k<W2.heap.size from λk G=>by have:=hA k G;omega);have X3:=mI (λk=>k=b1\/(jf N pre.length O).ownBlock=some k) W2;have hK:Hid (∀k,A k\/Rt k -> ¬(k=b1\/(jf N pre.length O).ownBlock=some k)):=iF λk G h=>by
    rcases h with h|h
    . rcases G with G|G
      . have:=aj.out k G;omega
      . have:=HR.out k G;omega
    . rcases G with G|G
      . exact (M k h).1 G
      . have:=M k h;have:=HR.out k G;omega
   refine Gv (Bs rfl (By B5) (eK ?_));refine Aw (Df [_] Ac CC rfl rfl rfl rfl rfl rfl rfl rfl rfl) rfl ?_ aFh;rintro _ ay ⟨az,rfl,aa,a0⟩;have a1:=aa.blk;have aq:=aa.ext;have a2:=aa.pos;have a3:=aa.size;revert j1 j2 V X3;refine eE aq ?_;intro j1 j2 V X3;refine Dk (R:=λ_=>False) (sh:=strShape) (z:=x) Ac CC rfl rfl rfl rfl AU rfl rfl rfl Ae (λ_ h=>by exact h) (mS Ae) rfl Ab Ab rfl ?_;rintro af Y ar ab ac au Z;replace j1:=mH j1 Z (λh=>by have:=M _ h;omega);replace V:=mQ V Z (λk G=>by have:=M _ G;omega);replace X3:=mL X3 Z (λk G=>iG (iH G));refine eS [_] j1 ?_;intro av ak ad _;replace ab:=nE ab ad (λk G=>⟨id,λe=>by (obtain rfl:=iQ (show some af=some k from e);rcases ac with h|h;have:=M _ h;omega;omega)⟩);revert V X3;refine eF ad ?_;intro V X3;refine Ak (Ah (Jk (nF X3 hK.out) ⟨some ⟨af,0,none⟩,Y,by rw [iX];simpa using ae,ak,Ae,λg U=>?_,V⟩));obtain rfl:=iQ (show some af=some g from U);rcases ac with h|h
   . exact ⟨(M _ h).1,(M _ h).2.1⟩
   . exact ⟨λhA=>by have:=aj.out _ hA;omega,Ab⟩
 . rintro A S W hS hA ⟨N,O,ap,j1,j2,j3,V⟩ hm G;refine Ix (DF (It (EN (FI (Ap Ac rfl rfl rfl (λwz hz=>by rw [show wz=W from hz];exact j1.cell rfl)) rfl (FI (I5 rfl) rfl (G0 (DF (Ka (QR G rfl rfl (λw3 al=>?_))))))))));exact ⟨N,O,S,rfl,hS,j2.fr al (λk e=>⟨id,λh=>(j3 k h).1 (e▸hm)⟩),mQ V al (λk e=>by omega)⟩
def Wm (G:Nat) (M:lV) (Y:B0 prog G=true) (N:nP) (h Fin:List BA->Prop) (Z:∀p,h p->p.length<=1000000) (w:wD) (O:∀k,N k->k<w.heap.size) (U:∀w1,Ext w w1->J0 prog G M Sg N h Fin w1) :
 Calls prog 61 #[.func (.func G) #[] M.toArray] w (NamsR Fin w):=by
 have X:=Ne w;have HA:=iF (λw1 (x:Ext w w1)=>YC G M Y N h Fin Z w1 (λk V=>by have:=O k V;have:=x.size;omega) (λw2 x2=>U w2 (x.trans x2)));refine Ad func61 ntmps61 rfl rfl (kQ (HA.out _ Ae) ?_);rintro _ w7 ⟨a1,c2,aa,⟨⟩,h4,h5,x6⟩;have X:=X.ext x6;refine kR ?_;exact ⟨_,_,_,rfl,Ae,OwnQ.below Ae (λk V=>by have:=OwnQ.ge Ae V;omega),X⟩
set_option maxHeartbeats 8000000 in
def dY (g cap:Nat) (xs:List BA) (hn:1<=xs.length/\xs.length<=12) (w:wD) (G:ArrT w g xs) :
 Calls prog 125 #[.slice (some ⟨g,0,none⟩) xs.length cap,.int .i64 0,.int .i64 xs.length] w λe w'=>e = .returned (.tuple #[])/\ArrT w' g (FJ Ki xs)/\Fr (· = g) w w':=by
 have F:=mI (· = g) w;have HC:=iF (λs t w1=>dW s t w1);generalize Ki=lt at *;refine Ad func125 ntmps125 rfl rfl (cS (C1 Mv (C1 V7 (C1 Pa (cT ?_)))));refine Au ?_;refine AP (ι:=Nat) (λi=>[(0,.slice (some ⟨g,0,none⟩) xs.length cap),(1,.int .i64 0),(2,.int .i64 xs.length),(6,.int .i64 i)])
  (λi w'=>1<=i/\i<=xs.length/\ArrT w' g (NF lt xs i)/\Fr (· = g) w w') (λi=>xs.length-i) 1 sB ⟨iW _,hn.1,by rw [NG hn.1];exact G,F⟩ ?_
 rintro i w1 ⟨a7,hi,G,F⟩;by_cases ai:i<xs.length
 . have aq:=K5 (lt:=lt) (xs.take i);rw [jp] at aq;have ar:=OX (lt:=lt) ai;rw [Se ai] at G;have a8:(xs.drop (i+1)).length=xs.length-(i+1):=kV ..;have HN:=iF ar;generalize a9:Gc lt (xs.take i)=acc at *;generalize xs.drop (i+1)=r at *;generalize xs[i]=x at *;refine Aj (cS (C1 Mv (C1 Mv (C1 V3 (cT (TS (Ao (Ai (Aj (Au (cS (C1 Mv (C1 Pa (cT ?_))))))))))))));refine Au ?_;refine AP (ι:=List BA×List BA) (λz=>[(0,.slice (some ⟨g,0,none⟩) xs.length cap),(1,.int .i64 0),(2,.int .i64 xs.length),(6,.int .i64 i),(7,.int .i64 z.1.length)])
    (λz w'=>InsI lt x acc z.1 z.2/\z.1.length+z.2.length=i/\ArrT w' g (He z.1 x z.2 r)/\Fr (· = g) w w') (λz=>z.1.length) (acc,[]) (by (refine An rfl ?_;refine An rfl ?_;refine An rfl ?_;refine An rfl ?_;refine B4 rfl (by go_num) ?_;exact BL)) ⟨InsI.first x acc,by simp only [ji];omega,G,F⟩ ?_
   rintro ⟨p,q⟩ w2 ⟨hI,af,G,F⟩;simp only at hI af G;refine nq (m:=[(0,.slice (some ⟨g,0,none⟩) xs.length cap),(1,.int .i64 0),(2,.int .i64 xs.length),(6,.int .i64 i),(7,.int .i64 p.length)]) ?_ sB;have rx:=G.row1 (Yz p x q r);have aj:=Sd p x q r;cases p with
   | nil=>
    have N:=hI.stop (λy r h=>by cases h) r;rw [<-HN.out] at N;rw [N] at G;refine eK ?_;refine Aq (λM=>Ext w2 M) 13 (.pure 0 (.pure 1 (.pure 2 (.pure 3 (.pure 4 (.pure 5 (.pure 6 (.pure 7 (.pure 8 (.pure 9 (.pure 10 (.pure 11 (.pure 12 .tail))))))))))))) mixed AU (Aa (Aa (Aa (Af (Af (Aa (Aa (Af Ag)))))))) ?_;intro au ak _;have ac:(λM=>Ext w2 M) au:=ak;simp only at ac;revert F G;refine eE ak ?_;intro F G;refine ⟨ac,(Tq rfl Mv (Tq rfl Mv (Tq rfl V5 (Tq rfl Mv (eM rfl (eM rfl (eM rfl (eM rfl (eM rfl (eM rfl (eM rfl (eM rfl (eM rfl (Ar rfl (YP (C1 bB (cT (Ba rfl (Ca (AB (AB (A0 (Ah (Ai (Al (C1 Mv (C1 V7 (C1 Pa (Ak ?_)))))))))))))))))))))))))))))⟩;exact AA (i+1) sB ⟨Ab,Ab,G,F⟩ Ab
   | cons y p=>
    have ry:=G.row1 (YA y p x q r);have av:=OW y p x q r;have aa:=iF (HC.out x y);have O:jP .i64 ((p.length:Int)+1-1)=(p.length:Int):=by rw [Int.add_sub_cancel];exact iO _ (by simp only [iM] at af;omega)
    have HI:=iF hI;simp only [iM] at rx aj af;refine nq (m:=[(0,.slice (some ⟨g,0,none⟩) xs.length cap),(1,.int .i64 0),(2,.int .i64 xs.length),(6,.int .i64 i),(7,.int .i64 ((p.length:Int)+1))]) ?_ sB;by_cases Y:lt x y=true
    . have aw:=HI.out.step Y;rw [Y] at aa;generalize He (y::p) x q r=row at *;refine eK ?_;refine Aq (λM=>Ext w2 M) 13 (.pure 0 (.pure 1 (.pure 2 (.pure 3 (.pure 4 (.pure 5 (.pure 6 (.pure 7 (.pure 8 (.pure 9 (.pure 10 (.pure 11 (.pure 12 .tail))))))))))))) mixed AU (Aa (Aa (Aa (Af (Af (Aa (Aa (Af Ag)))))))) ?_;intro ax al _;have ad:(λM=>Ext w2 M) ax:=al;simp only at ad;have U:=rx;have V:=ry;revert F rx ry G;refine eE al ?_;intro F ry rx G;refine ⟨ad,(Tq rfl Mv (Tq rfl Mv (Tq rfl V5 (Tq rfl Mv (eN rfl (Av rfl) (eN rfl (Av rfl) (eN rfl (AK Ac rfl rfl rfl rfl Ab Ab) (eN rfl (Ap Ac rfl rfl rfl (λM Z=>mO (mJ U Z) rfl)) (eN rfl (Av rfl) (eN rfl (Av rfl) (eN rfl (AL (c:=(p.length:Int)) rfl rfl O) (eN rfl (AK Ac rfl rfl rfl rfl Ab Ab) (eN rfl (Ap Ac rfl rfl rfl (λM Z=>mO (mJ V Z) rfl)) (Ar rfl (bD (cC rfl (aa.out _) ?_))))))))))))))))⟩;rintro _ ab ⟨⟨⟩,ay⟩;revert F rx ry G;refine eE ay ?_;intro F ry rx G;refine eK ?_;refine E9 (λM=>Ext ab M) (λM=>Fr (λx=>x=g) ab M) [2,3,4,15,16,17] [2,3,4] 15 16 (.free 2 (.free 3 (.free 4 (.pure 0 (.pure 1 (.pure 5 (.pure 6 (.pure 7 (.pure 8 (.pure 9 (.pure 10 (.pure 11 (.pure 12 (.pure 13 (.pure 14 (.put 15 (.tail 16))))))))))))))))) (λ_ h=>mG h) mixed AU (Af (Aa (Aa (Af (Af (Aa (Aa (Af Ag)))))))) ?_;intro am ag _;have ah:(λM=>Ext ab M) am:=ag;simp only at ah;have X:(λM=>Fr (λx=>x=g) ab M) am:=mG ag;simp only at X;have U:=rx;have V:=ry;revert F G;refine eE ag ?_;intro F G;refine Bp Ae rfl (Av rfl) rfl (Bp Ae rfl (Av rfl) rfl (Bp Ae rfl (AL (c:=(p.length:Int)) rfl rfl O) rfl (Am Ae rfl (Av rfl) rfl (Am Ae rfl (Av rfl) rfl (Am Ae rfl (Av rfl) rfl (Am Ae rfl (Av rfl) rfl (Am Ae rfl (AL (c:=(p.length:Int)) rfl rfl O) rfl (Am Ae rfl (AK Ac rfl rfl rfl rfl Ab Ab) rfl ?_))))))));refine Am Ae rfl (Ap Ac rfl rfl rfl (λM Z=>mO (mJ V Z) rfl)) rfl (Am Ae rfl (Av rfl) rfl (Am Ae rfl (Av rfl) rfl ?_))
      refine Am Ae rfl (AK Ac rfl rfl rfl rfl Ab Ab) rfl (Am Ae rfl (Ap Ac rfl rfl rfl (λM Z=>mO (mJ U Z) rfl)) rfl (Am Ae rfl (AK Ac rfl rfl rfl rfl Ab Ab) rfl (DD rfl (Gd (j:=p.length+1) (z:=y) Ac rfl rfl rfl rfl Ae Ab) (BJ ?_))));rintro _ a1 ⟨a2,an,a3⟩;revert X F;refine eF an ?_;intro X F;refine ⟨Ae,(DB rfl (C1 Pi (A7 (Gd (j:=p.length) (z:=x) Ac rfl rfl rfl rfl Ae (by rw [kg];omega)) (BJ ?_))))⟩;rintro _ a4 ⟨a5,ao,a6⟩;have F:=F.fr ao Ab;refine eK ?_;refine C1 (AL (c:=(p.length:Int)) rfl rfl O) (C1 Pa (Ak ?_));exact AA (p,y::q) sB ⟨aw,by simp only [iM];omega,by rw [<-av];assumption,F⟩ AN
    . rw [Bool.not_eq_true] at Y;rw [Y] at aa;have N:=HI.out.stop (λy' r' h=>by simp only [jw] at h;rw [<-h.1];exact Y) r;rw [<-HN.out] at N;rw [N] at G;refine eK ?_;refine Aq (λM=>Ext w2 M) 13 (.pure 0 (.pure 1 (.pure 2 (.pure 3 (.pure 4 (.pure 5 (.pure 6 (.pure 7 (.pure 8 (.pure 9 (.pure 10 (.pure 11 (.pure 12 .tail))))))))))))) mixed AU (Aa (Aa (Aa (Af (Af (Aa (Aa (Af Ag)))))))) ?_;intro az ap _;have ae:(λM=>Ext w2 M) az:=ap;simp only at ae;have U:=rx;have V:=ry;revert F G;refine eE ap ?_;intro F G;refine ⟨ae,(Tq rfl Mv (Tq rfl Mv (Tq rfl V5 (Tq rfl Mv (eN rfl (Av rfl) (eN rfl (Av rfl) (eN rfl (AK Ac rfl rfl rfl rfl Ab Ab) (eN rfl (Ap Ac rfl rfl rfl (λM Z=>mO (mJ U Z) rfl)) (eN rfl (Av rfl) (eN rfl (Av rfl) (eN rfl (AL (c:=(p.length:Int)) rfl rfl O) (eN rfl (AK Ac rfl rfl rfl rfl Ab Ab) (eN rfl (Ap Ac rfl rfl rfl (λM Z=>mO (mJ V Z) rfl)) (Ar rfl (bD (cC rfl (aa.out _) ?_))))))))))))))))⟩;rintro _ ba ⟨⟨⟩,a0⟩;revert F G;refine eE a0 ?_;intro F G;refine C1 bC (cT (Ba rfl (Ca (AB (AB (A0 (Ah (Ai (Al (C1 Mv (C1 V7 (C1 Pa (Ak ?_)))))))))))))
      exact AA (i+1) sB ⟨Ab,Ab,G,F⟩ Ab
 . obtain rfl:i=xs.length:=by omega
   rw [K7] at G;refine Aj (cS (C1 Mv (C1 Mv (C1 V3 (cT (DA (Ca (AB (AB (A0 (Bm rfl ?_)))))))))));exact ⟨rfl,G,F⟩
def NamAt (S:nP) (w:wD) (xs:List BA) (a:oA):Prop:=xs=[] \/ ∃g,a=some ⟨g,0,none⟩/\S g/\ArrT w g xs
def NamAt.ext {S:nP} {w w':wD} {xs:List BA} {a:oA} (h:NamAt S w xs a) (x:Ext w w'):NamAt S w' xs a:=h.imp id λ⟨g,h1,h2,h3⟩=>⟨g,h1,h2,h3.ext x⟩
instance:LfE w w' (NamAt S w xs a) (NamAt S w' xs a):=⟨λx h=>Bk.NamAt.ext h x⟩
def bW:∀xs:List BA,(xs.map λx=>[str x]).flatten=xs.map str
 | []=>rfl
 | x::r=>by simp only [jo,kJ,bW r];rfl
def OwnQ.namAt {R:nP} {B e:Nat} {c:Nat} (h:OwnQ strShape w R B e (.slice a n c) xs):NamAt (λb=>B<=b/\b<w.heap.size) w xs a:=by
 by_cases N:xs=[]
 . exact iG N
 . obtain ⟨G,U,V,X⟩:=h.ex;have M:=λk Y=>h.lt (k:=k) Y
   obtain ⟨h4,⟨h5,Z⟩|⟨g,cap,cur,O,hg,hh,-,-,-,h7⟩⟩:=U
   . exact absurd (kv Z) N
   . simp only [jm] at O;obtain ⟨rfl,-,-⟩:=O;refine iH ⟨g,rfl,⟨hg,M g rfl⟩,cur.toList.drop (xs.length*strShape.sz),e,?_⟩;have e1:G=xs.map λx=>[str x]:=by
      refine lL (by simp [V]) λi hi aa=>?_
      rw [lx];exact X i xs[i] G[i] (iE Ab) (iE hi)
     have e2:G.flatten=xs.map str:=by rw [e1,bW]
     rw [<-e2,<-h7,jA];exact hh
def NamR (xs:List BA) (w:wD):Ending->wD->Prop:=λe w'=> ∃a c,e = .returned (.slice a xs.length c)/\NamAt (λb=>w.heap.size<=b/\b<w'.heap.size) w' xs a/\Ext w w'
def NamR.ret (h:NamR xs w e w'):∃v,e = .returned v:=by
 obtain ⟨_,_,h,-⟩:=h;exact ⟨_,h⟩
def OY (lt:α->α->Bool) (l:List α):(FJ lt l).length=l.length:=by
 rw [<-K7];unfold NF;simp [K5]
set_option maxHeartbeats 8000000 in
def dZ (g cap:Nat) (xs:List BA) (U:1<=xs.length/\xs.length<=12) (w:wD) (G:ArrT w g xs) :
 Calls prog 62 #[.slice (some ⟨g,0,none⟩) xs.length cap] w λe w'=>e = .returned (.tuple #[])/\ArrT w' g (FJ Ki xs)/\Fr (· = g) w w':=by
 have V:=iF (λw1 h=>dY g cap xs U w1 h);have X:Hid (∀(k:Int) w1,ArrT w1 g xs->Calls prog 91 #[.slice (some ⟨g,0,none⟩) xs.length cap,.int .i64 0,.int .i64 xs.length,.int .i64 k] w1 λe w'=>e = .returned (.tuple #[])/\ArrT w' g (FJ Ki xs)/\Fr (· = g) w1 w'):=iF λk w1 G=>by
  have F:=mI (· = g) w1;refine Ad func91 ntmps91 rfl rfl (cS (C1 Pa (cN (C1 Pa (cT ?_)))));refine Au ?_;refine AP (ι:=Unit) (λ_=>[(0,.slice (some ⟨g,0,none⟩) xs.length cap),(1,.int .i64 0),(2,.int .i64 xs.length),(3,.int .i64 k)]) (λ_ w'=>ArrT w' g xs/\Fr (· = g) w1 w') (λ_=>0) () sB ⟨G,F⟩ ?_;rintro _ w2 ⟨G,F⟩;refine eK ?_;refine C1 (AL rfl rfl (iO _ Ab)) (kC (V.out _ Ae) ?_);rintro _ Y ⟨⟨⟩,Z,M⟩;have F:=F.fr M Ab;refine eK ?_;refine EZ rfl ?_;exact ⟨rfl,Ae,F⟩
 have F:=mI (· = g) w;refine Ad func62 ntmps62 rfl rfl (eK ?_);refine C1 (JJ Ac rfl rfl rfl (JM _ Ab Ab)) (Aw (AM AU rfl (IJ xs.length Ab _) (λ_ _ ⟨_,h⟩=>⟨_,h.1⟩)) rfl ?_ aFh);rintro _ aa ⟨ab,⟨⟩,N⟩;revert G F;refine eE N ?_;intro G F;refine cC rfl (X.out _ _ Ae) ?_;rintro _ ac ⟨⟨⟩,ad,O⟩;have F:=F.fr O Ab;refine Ak (Bm rfl ?_);exact ⟨rfl,Ae,F⟩
set_option maxHeartbeats 8000000 in
def aQ (a:oA) (c:Nat) (w:wD):Calls prog 62 #[.slice a 0 c] w λe w'=>e = .returned (.tuple #[])/\Ext w w':=by
 have O:Hid (∀w1,Calls prog 125 #[.slice a 0 c,.int .i64 0,.int .i64 0] w1 λe w'=>e = .returned (.tuple #[])/\Ext w1 w'):=iF λw1=>by
  have X:=Ne w1;refine Ad func125 ntmps125 rfl rfl (cS (C1 Mv (C1 V7 (C1 Pa (cT ?_)))));refine Au ?_;refine AP (ι:=Unit) (λ_=>[(2,.int .i64 0),(6,.int .i64 1)]) (λ_ w'=>Ext w1 w') (λ_=>0) () sB X ?_;rintro _ U X;refine Aj (cS (C1 Mv (C1 Mv (C1 V3 (cT (LT (Ca (AB (AB (A0 (Bm rfl ?_)))))))))));exact ⟨rfl,X⟩
 have V:Hid (∀(k:Int) w1,Calls prog 91 #[.slice a 0 c,.int .i64 0,.int .i64 0,.int .i64 k] w1 λe w'=>e = .returned (.tuple #[])/\Ext w1 w'):=iF λk w1=>by
  have X:=Ne w1;refine Ad func91 ntmps91 rfl rfl (cS (C1 Pa (cN (C1 Pa (cT ?_)))));refine Au ?_;refine AP (ι:=Unit) (λ_=>[(0,.slice a 0 c),(1,.int .i64 0),(2,.int .i64 0),(3,.int .i64 k)]) (λ_ w'=>Ext w1 w') (λ_=>0) () sB X ?_;rintro _ U X;refine eK ?_;refine C1 (AL rfl rfl (iO _ Ab)) (kC (O.out _) ?_);rintro _ Y ⟨⟨⟩,G⟩;have X:=X.ext G;refine eK ?_;refine EZ rfl ?_;exact ⟨rfl,X⟩
 have X:=Ne w;refine Ad func62 ntmps62 rfl rfl (eK ?_);refine C1 (JJ Ac rfl rfl rfl (JM _ Ab Ab)) (Aw (AM AU rfl (IJ 0 Ab _) (λ_ _ ⟨_,h⟩=>⟨_,h.1⟩)) rfl ?_ aFh);rintro _ Z ⟨aa,⟨⟩,M⟩;have X:=X.ext M;refine cC rfl (V.out _ _) ?_;rintro _ ab ⟨⟨⟩,N⟩;have X:=X.ext N;refine Ak (Bm rfl ?_);exact ⟨rfl,X⟩
set_option maxHeartbeats 8000000 in
def YD (Y:Nat) (Z:lV) (eg:B0 prog Y=true) (Rt:nP) (M Fin:List BA->Prop) (hN:∀p,M p->p.length<=1000000) (hF:∀p,Fin p->p.length<=12) (T:List BA) (O:∀p,Fin p->FJ Ki p=T) (w:wD) (aa:∀k,Rt k->k<w.heap.size) (ab:∀w1,Ext w w1->J0 prog Y Z Sg Rt M Fin w1) :
 Calls prog 33 #[.func (.func Y) #[] Z.toArray] w (NamR T w):=by
 have X:=Ne w;have HA:=iF (λw1 (x:Ext w w1)=>Wm Y Z eg Rt M Fin hN w1 (λk hk=>by have:=aa k hk;have:=x.size;omega) (λw2 x2=>ab w2 (x.trans x2)));have HF:=iF hF;have HT:=iF O;refine Ad func33 ntmps33 rfl rfl (kQ (HA.out _ Ae) ?_);rintro _ w7 ⟨a1,c2,N,⟨⟩,h4,h5,x6⟩;have X:=X.ext x6;refine C1 Pa (cT ?_);have ac:=HF.out _ h4;have O:=HT.out _ h4;have ad:=h5.namAt;by_cases hx:N=[]
 . subst hx;have ae:T=[]:=by rw [<-O];rfl
   subst ae;refine kC (aQ _ _ _) ?_;rintro _ ag ⟨⟨⟩,af⟩;have X:=X.ext af;refine kR ?_;exact ⟨_,_,rfl,iG rfl,X⟩
 . obtain ⟨g,rfl,⟨ah,ai⟩,hA⟩:=ad.resolve_left hx;have G:=OY Ki N;have U:=List.length_pos_iff.2 hx;rw [O] at G;have HS:=iF (λw1 h=>dZ g c2 N ⟨U,ac⟩ w1 h);rw [O] at HS;refine kC (HS.out _ Ae) ?_;rintro _ aj ⟨⟨⟩,ak,V⟩;have al:=V.size;have X:=mQ X V (λk hk=>by omega);refine kR ?_;exact ⟨_,_,by rw [G],iH ⟨g,rfl,⟨Ab,Ab⟩,Ae⟩,X⟩
def NI (lt:BA->BA->Bool):∀(L:List AtV) (o:List BA),(L.foldl (λo a=>if a.s∈o then o else Hc lt a.s o) o).length<=o.length+L.length
 | [],o=>by simp
 | a::L,o=>by
  rw [List.foldl_cons];have h:∀(x:BA) (l:List BA),(Hc lt x l).length=l.length+1:=λx l=>by
   induction l with
   | nil=>rfl
   | cons y r G=>unfold Hc;split<;>simp [G]
  split
  . have:=NI lt L o;simp only [iM];omega
  . have:=NI lt L (Hc lt a.s o);rw [h] at this;simp only [iM];omega
def K8:∀(L:List AtV) (o:List BA),(L.foldl (λo a=>if a.s∈o then o else o++[a.s]) o).length<=o.length+L.length
 | [],o=>by simp
 | a::L,o=>by
  rw [List.foldl_cons];split
  . have:=K8 L o;simp only [iM];omega
  . have:=K8 L (o++[a.s]);simp only [iX,iM,ji] at this ⊢;omega
def TJ (L:List AtV):(Bo L).length<=L.length:=by have:=K8 L [];simpa [Bo] using this
set_option maxHeartbeats 8000000 in
def TK (M X:nP) (Z:Nat) (es:List EX) (L:List AtV) (hL:L.length<=12) (w:wD) (hb:BkAt M X w Z es L) :
 Calls prog 18 #[pt Z] w (NamR (G5 Ki L) w):=by
 have O:=Ne w;obtain ⟨ea,ec,r,h1,-,-,⟨bf,g1,-,-,-⟩,-,-⟩:=hb;have hk:((Bo L).map λs=>(s,Value.map (some (bf s)))).map (·.1)=Bo L:=by simp [Function.comp_def]
 have HK:=iF (λw1 h=>dX r _ w1 (show MapB w1 r ((Bo L).map λs=>(s,.map (some (bf s)))) from h));rw [hk] at HK;have HS:Hid (∀(G:Nat) (w1:wD),G<w1.heap.size->r<w1.heap.size->(J0 prog 63 [pt G] Sg (λk=>k=r\/k=G) (YB (Bo L)) (·.Perm (Bo L)) w1) ->
  Calls prog 33 #[.func (.func 63) #[] #[pt G]] w1 (NamR (G5 Ki L) w1)):=iF λG w1 aa hr U=>by
  have ab:=TJ L;refine YD _ [_] AU (λk=>k=r\/k=G) (YB (Bo L)) (·.Perm (Bo L)) (λp ⟨S,hS,N⟩=>?_) (λp N=>?_) (G5 Ki L) (λp N=>?_) w1 (λk hk=>by omega) (λw2 x2=>?_)
  . have h1:=N.length_le;have h2:=hS.length_eq;omega
  . have h2:=N.length_eq;omega
  . exact Oq nlt_tot L (N.nodup_iff.2 (Kj L)) (λz=>N.mem_iff)
  . exact λy J Jx W hK=>U y J Jx W ((Keeps.of_ext x2).trans hK)
 refine Ad func18 ntmps18 rfl rfl (eK ?_);refine C1 (Fq Ac rfl rfl) (kQ (HK.out _ Ae) ?_);rintro _ w7 ⟨ac,⟨⟩,h2,h3,h4,h5,x6⟩;have O:=O.ext x6;refine eQ rfl (HS.out _ _ Ab Ab Ae) ?_;rintro _ ad ⟨a9,ae,⟨⟩,V,Y⟩;have O:=O.ext Y;refine kR ?_;exact ⟨_,_,rfl,V.imp id λ⟨g,q1,q2,q3⟩=>⟨g,q1,⟨Ab,Ab⟩,q3⟩,O⟩
set_option maxHeartbeats 8000000 in
def OZ (M X:nP) (bb:Nat) (es:List EX) (he:es.length<=1000) (hp:∀e∈es,0<=e.points/\e.points<=1000) (L:List AtV) (hL:L.length<=12) (w:wD) (U:BkAt M X w bb es L) :
 Calls prog 19 #[pt bb] w (NamR (G5 (Oo L (GI es)) L) w):=by
 have G:=Ne w;have HS:=iF (λw1 h=>TK M X bb es L hL w1 h);have V:(G5 Ki L).length<=12:=by have:=NI Ki L [];simp only [ji] at this;unfold G5;omega
 obtain ⟨ab,ac⟩:=IA nlt_tot L [] List.Pairwise.nil;have ad:(G5 Ki L).Nodup:=G4 nlt_tot ab;have O:∀z,z∈G5 Ki L↔z∈Bo L:=λz=>(ac z).trans (((FK L [] List.nodup_nil).2 z).symm)
 have Y:=Oq (Zu L (GI es)) L ad O;have N:=OY (Oo L (GI es)) (G5 Ki L);rw [Y] at N;have Z:∀k,X k\/M k->k<w.heap.size:=by
  obtain ⟨ea,ec,r,-,-,-,-,h5,h6⟩:=U;exact λk hk=>hk.elim (λh=>(h5 k h).2) (h6 k)
 have HF:=iF (λbx g cap hn hg w1 h1 h2 h3=>TI M X bb es he hp L Ab bx g cap (G5 Ki L) (λx hx=>(O x).1 hx) hn hg w1 h1 h2 h3);rw [Y] at HF;have ae:G5 Ki L=[]->G5 (Oo L (GI es)) L=[]:=λh=>by rw [h] at N;exact kv N
 generalize G5 (Oo L (GI es)) L=T at *;generalize G5 Ki L=xs at *;refine Ad func19 ntmps19 rfl rfl (cS (eB [_] ?_));intro b1 w2 h4 x5 p6 z7;revert U G;refine eE x5 ?_;intro U G;refine eK ?_;refine C1 (Fq Ac rfl rfl) (kQ (HS.out _ Ae) ?_);rintro _ ak ⟨a8,c9,⟨⟩,af,ag⟩;revert h4 U G;refine eE ag ?_;intro h4 U G;refine C1 Pa (cT ?_);by_cases hx:xs=[]
 . subst hx;have ah:=ae rfl;subst ah;refine eK ?_;refine C1 (B6 rfl) (cC rfl (Sf _ _ _ _) ?_);rintro _ al ⟨⟨⟩,ai⟩;have G:=G.ext ai;refine kR ?_;exact ⟨_,_,rfl,iG rfl,G⟩
 . obtain ⟨g,rfl,⟨am,an⟩,hA⟩:=af.resolve_left hx;have aj:=iF (HF.out b1 g c9 ⟨List.length_pos_iff.2 hx,V⟩ ⟨λh=>by have:=Z g (iG h);omega,λh=>by have:=Z g (iH h);omega,Ab⟩);refine eK ?_;refine C1 (B6 rfl) (cC rfl (aj.out _ Ae Ae Ae) ?_);rintro _ ao ⟨⟨⟩,ap,aa⟩;have aq:=aa.size;have G:=mQ G aa (λk hk=>by omega);refine kR ?_;exact ⟨_,_,by rw [N],iH ⟨g,rfl,⟨Ab,Ab⟩,Ae⟩,G⟩
def YE {g o j:Nat} {v:Value} (h:Row w ⟨g,o,none⟩ vs) (G:vs[j]? = some v):Row w ⟨g,o+j*1,none⟩ [v]:=by
 have k:=h.sub j 1;rw [show (vs.drop j).take 1=[v] from by
  rw [List.take_one,List.head?_drop,G];rfl] at k
 rwa [lf]
def O0 (k:Int) (w:wD):Calls prog 12 #[.int .u8 k] w (PgC (pG k) w):=by
 have X:=Ne w;refine Ad func12 ntmps12 rfl rfl (cS (eA [_,_,_,_,_,_] ?_));intro b1 w2 N x6 p7 z8;have X:=X.ext x6;refine eK ?_;refine C1 (xB [_,_,_,_]) (C1 (xB [_,_,_,_]) (Aw (xS [_,_,_,_,_,_,_,_]) rfl ?_ aFh));rintro _ ai ⟨b9,rfl,O,aj⟩;have h:=O.blk;have ab:=O.ext;have ak:=O.pos;have al:=O.size;revert N X;refine eE ab ?_;intro N X;refine C1 (xB [_,_,_,_]) (xA [_,_,_,_] ?_);intro am an ac;refine eI [_,_,_,_] ac ?_;intro ao Y ad ap aq;revert h N X;refine eE ad ?_;intro h N X;refine cN (C1 (xB [_,_,_]) (Aw (xS [_,_,_]) rfl ?_ aFh));rintro _ ar ⟨Z,rfl,U,t28⟩;have M:=U.blk;have ae:=U.ext;have au:=U.pos;have av:=U.size;revert Y h N X;refine eE ae ?_;intro Y h N X;refine A3 [_,_,_,_] Ac rfl rfl rfl Y rfl rfl rfl (Aw (xS [_,_,_,_]) rfl ?_ aFh);rintro _ aw ⟨aa,rfl,V,ax⟩;have G:=V.blk;have af:=V.ext;have ay:=V.pos;have az:=V.size;revert M h N X;refine eE af ?_;intro M h N X;refine C1 (xB [_,_,_,_]) (C1 (xB [_,_,_,_,_,_]) (eS [_,_,_,_,_,_] N ?_));intro a0 ag ah a1;revert G M h X;refine eF ah ?_;intro G M h X;refine kX ag ?_;refine ⟨some ⟨Z,0,none⟩,1,none,0,some ⟨aa,0,none⟩,1,rfl,⟨iH ⟨Z,0,rfl,⟨Ab,Ab⟩,?_⟩,iG rfl,?_⟩,iG rfl,iW _,X⟩
 . intro i v hi;rcases i with - | i
   . cases hi;exact M.row
   . cases i<;>cases hi
 . exact ⟨aa,0,some ⟨b9,0,none⟩,2,rfl,⟨Ab,Ab⟩,G.cell (i:=0) rfl,G.cell (i:=1) rfl,G.cell (i:=2) rfl,G.cell (i:=3) rfl,
    ⟨b9,0,none,0,rfl,⟨Ab,Ab⟩,h.cell (i:=0) rfl,h.cell (i:=1) rfl,h.cell (i:=2) rfl,h.cell (i:=3) rfl,trivial,
     b9,4,none,0,rfl,⟨Ab,Ab⟩,h.cell (i:=4) rfl,h.cell (i:=5) rfl,h.cell (i:=6) rfl,h.cell (i:=7) rfl,trivial,trivial⟩,trivial⟩
def K9 (xs ys:List BA) (hx:xs.length<=1000000) (S S':nP) (a a':oA) (c c':Nat) (w:wD) (V:Rows S w (xs.map str) a) (Y:Rows S' w (ys.map str) a') :
 Calls prog 29 #[.slice a xs.length c,.slice a' ys.length c'] w λe w'=>e = .returned (.bool (decide (xs=ys)))/\Ext w w':=by
 have X:=Ne w;rcases Decidable.em (xs.length=ys.length) with hn|hn
 case inr=>
  rw [decide_eq_false (λe=>hn (by rw [e]))];refine Ad func29 ntmps29 rfl rfl ?_;refine kR ?_;exact ⟨rfl,X⟩
 refine Ad func29 ntmps29 rfl rfl ?_;refine cS (C1 Pa (cT (Aj (cS (C1 Mv (C1 Pz (C1 Mv (C1 Pz (C1 V2 (cT (DA ?_)))))))))));refine Ao (Ai (Aj (cS (C1 Pa (cT ?_)))));refine Au ?_;refine AP (ι:=Nat) (λj=>[(0,.slice a xs.length c),(1,.slice a' ys.length c'),(5,.int .i64 j)])
  (λj w'=>j<=xs.length/\xs.take j=ys.take j/\Rows S w' (xs.map str) a/\Rows S' w' (ys.map str) a'/\Ext w w') (λj=>xs.length-j) 0 sB ⟨iT _,rfl,V,Y,X⟩ ?_
 clear V Y X;rintro j w1 ⟨hj,ht,V,Y,X⟩;by_cases U:j<xs.length
 . have G:j<ys.length:=by omega
   rcases V with h|⟨g,o,rfl,s1,r1⟩
   . rw [List.map_eq_nil_iff] at h;rw [h] at U;simp at U
   rcases Y with h|⟨g',o',rfl,s2,r2⟩
   . rw [List.map_eq_nil_iff] at h;rw [h] at G;simp at G
   have rx:Row w1 ⟨g,o+j*1,none⟩ [str xs[j]]:=YE r1 (by rw [jl,iE U];rfl);have ry:Row w1 ⟨g',o'+j*1,none⟩ [str ys[j]]:=YE r2 (by rw [jl,iE G];rfl);have Z:xs[j]=ys[j]->xs.take (j+1)=ys.take (j+1):=λh=>by rw [iI U,iI G,ht,h]
   have af:xs[j]≠ys[j]->xs≠ys:=λh e=>h (by subst e;rfl)
   have V:Rows S w1 (xs.map str) (some ⟨g,o,none⟩):=iH ⟨g,o,rfl,s1,r1⟩;have Y:Rows S' w1 (ys.map str) (some ⟨g',o',none⟩):=iH ⟨g',o',rfl,s2,r2⟩;generalize xs[j]=x at *;generalize ys[j]=y at *;by_cases ac:x=y
   . subst ac;refine eK ?_;refine Aq (λM=>Ext w1 M) 8 (.pure 0 (.pure 1 (.pure 2 (.pure 3 (.pure 4 (.pure 5 (.pure 6 (.pure 7 .tail)))))))) mixed AU (Aa (Af (Aa (Aa (Af (Aa Ag)))))) ?_;intro ag ad _;have aa:(λM=>Ext w1 M) ag:=ad;simp only at aa;have N:=rx;have O:=ry;revert X V Y;refine eE ad ?_;intro X V Y;refine ⟨aa,?_⟩;refine eT ?_;refine Tq rfl (Ap Ac rfl rfl rfl (λM hz=>mO (mJ N hz) rfl)) ?_;refine eT ?_;refine Tq rfl (Ap Ac rfl rfl rfl (λM hz=>mO (mJ O hz) rfl)) ?_;refine Ar rfl (C1 V9 (cT (NT rfl (not_not_intro rfl) (Ao (Ah (Ai (Al (C1 Mv (C1 V7 (C1 Pa (Ak ?_)))))))))));exact AA (j+1) sB ⟨Ab,Z rfl,V,Y,X⟩ Ab
   . rw [decide_eq_false (af ac)];clear Z;refine eK ?_;refine Aq (λM=>Ext w1 M) 8 (.pure 0 (.pure 1 (.pure 2 (.pure 3 (.pure 4 (.pure 5 (.pure 6 (.pure 7 .tail)))))))) mixed AU (Aa (Af (Aa (Aa (Af (Aa Ag)))))) ?_;intro ah ae _;have ab:(λM=>Ext w1 M) ah:=ae;simp only at ab;have N:=rx;have O:=ry;have X:=X.ext ae;refine ⟨ab,?_⟩;refine eT ?_;refine Tq rfl (Ap Ac rfl rfl rfl (λM hz=>mO (mJ N hz) rfl)) ?_;refine eT ?_;refine Tq rfl (Ap Ac rfl rfl rfl (λM hz=>mO (mJ O hz) rfl)) ?_;refine Ar rfl ?_;refine kR ?_;exact ⟨rfl,X⟩
 . obtain rfl:j=xs.length:=by omega
   rw [iZ,hn,iZ] at ht;rw [decide_eq_true ht];refine kR ?_;exact ⟨rfl,X⟩
def NamAt.rows (h:NamAt S w xs a):Rows S w (xs.map str) a:=by
 rcases h with rfl|⟨g,rfl,M,t,N⟩
 . exact iG rfl
 . refine iH ⟨g,0,rfl,M,λi v G=>N.row i v ?_⟩;rw [iN (List.getElem?_eq_some_iff.1 G).1,G]
def bX {k:Int} (G:0<=k) (M:k<=255):(pG k).wf:=by
 refine ⟨by simp [pG],by simp [pG],?_,by simp [pG],?_⟩
 . intro v h;simp only [pG,i8] at h;subst h;exact ⟨AN,AN,AN,AN,AN⟩
 . simp [pG,Nd.wf,C0,G,M]
def YF:e50.wf:=⟨by simp [e50],bX Ab Ab,by simp [e50,pG]⟩
def fY:Jo [e50]=0:=by
 unfold Jo;rw [At AN,AG (by simp [K4]),AG AN]
def NewY (l:List EX) (w:wD):Ending->wD->Prop:=λe w'=> ∃bb M X,e = .returned (.tuple #[.pointer (some ⟨bb,0,none⟩),.int .i64 0])/\BkAt M X w' bb l []/\(∀k,X k\/M k->w.heap.size<=k)/\Ext w w'
def NewY.ret {l:List EX} (h:NewY l w e w'):∃v,e = .returned v:=by
 obtain ⟨_,_,_,h,-⟩:=h;exact ⟨_,h⟩
def bZ (l:List EX) (N:∀e∈l,e.wf) (O:l.length<=1000000) (G:Jo l=0) (S:nP) (a:oA) (c:Nat) (w:wD) (U:EXs S w l a) :
 Calls prog 13 #[.slice a l.length c] w (NewY l w):=by
 refine jE (bO l N O S a c w U) ?_;rintro e w' ⟨p,k,rfl,rfl,X,⟨-,h⟩|⟨-,V,M,Y,rfl,Z,h2⟩⟩
 . exact absurd G h
 . exact ⟨V,M,Y,by rw [G],Z,h2,X⟩
def BkAt.ltM {X:nP} {L:List AtV} (h:BkAt S X w G es L):∀k,S k->k<w.heap.size:=by
 obtain ⟨_,_,_,-,-,-,-,-,h⟩:=h;exact h
def Sub5 (M X:nP) (bb:Nat) (L':List AtV) (q:Bool) (w:wD):Ending->wD->Prop:=λe w'=> ∃tr a x c ta tx tc oa ox oc er,e = .returned (.tuple #[.agg #[.bool q,.int .i64 tr,.slice a x c,.slice ta tx tc,.slice oa ox oc,.int .i64 er],.int .i64 0]) /\
 ∃M':nP,BkAt M' X w' bb [e50] L'/\(∀k,M' k->(M k\/w.heap.size<=k)/\k<w'.heap.size)/\Fr M w w'
def Sub5.ret {X:nP} {N:List AtV} {q:Bool} (h:Sub5 S X G N q w e w'):∃v,e = .returned v:=by
 obtain ⟨_,_,_,_,_,_,_,_,_,_,_,h,-⟩:=h;exact ⟨_,h⟩
def TL (L Z:List AtV) (hL:L.length<=100) (s:BA) (aa:s.length<=100) (hq:Cv s=true) (k:Int) (h0:0<=k) (h1:k<=255) (q:Bool) (hg:(BN e50 (pG k)).1.ok=q) (hv:CM [e50] L s [105,110,99] (pG k)=(((BN e50 (pG k)).1,0),Z)) (M X:nP) (G:Nat) (S:nP) (O:oA) (vc:Nat) (N:oA) (pc:Nat) (U:oA) (mc:Nat) (w:wD)
 (hb:BkAt M X w G [e50] L) (hs:(pG k).sits S w O N U) (V:PDsC S w (pG k).procs N) (Y:(pG k).vars.length<=vc) :
 Calls prog 14 #[pt G,str s,str [105,110,99],.agg ((pG k).cells O vc N pc U mc).toArray] w (Sub5 M X G Z q w):=by
 have h:=Sa M X G [e50] B9 L Ab s [105,110,99] Ab hq e50 0 AU rfl YF B9 (pG k) (bX h0 h1) (by simp [pG]) S O vc N pc U mc w hb hs V Y;rw [hv] at h;refine jE h ?_;rintro e w' ⟨a,c,ta,tc,oa,oc,rfl,-,-,M',-,k2,k3,k4⟩;refine ⟨(BN e50 (pG k)).1.tried,a,(BN e50 (pG k)).1.st.cells.length,c,ta,(BN e50 (pG k)).1.st.tin.length,tc,oa,(BN e50 (pG k)).1.st.tout.length,oc,(BN e50 (pG k)).1.err,by rw [<-hg],M',k3,λk hk=>⟨(k2 k hk).imp id And.left,BkAt.ltM k3 k hk⟩,k4⟩
def Sh {b:Nat} {x:BA} (h:Blk w b [str x,str s]):Rows (λ_=>True) w ([x,s].map str) (some ⟨b,0,none⟩):=iH ⟨b,0,rfl,trivial,h.row⟩
def aR {b:Nat} {e:EX} {h M:oA} {vc N:Nat} (V:Blk w b (e.cells a vc h N M n)) (X:e.g.sits S w a h M) (Y:PDsC S w e.g.procs h) (Z:e.g.vars.length<=vc):EXs (λ_=>True) w [e] (some ⟨b,0,none⟩):=by
 refine iH ⟨b,0,rfl,trivial,λi x U=>?_⟩;rcases i with - | i
 . cases U;rw [lQ,jC];exact ⟨a,vc,h,N,M,n,V.row,X.wide λ_ _=>trivial,Y.wide λ_ _=>trivial,Z⟩
 . cases i<;>cases U
set_option maxHeartbeats 8000000 in
def Wn (w:wD):Calls prog 11 #[] w λe w'=>e = .returned (.bool true)/\Ext w w':=by
 have N:=Ne w;have al:=iF (λw1=>O0 40 w1);have am:=iF (λw1=>O0 41 w1);have HN:=iF (λS a c w1 h=>bZ [e50] (λe he=>by rw [i8] at he;rw [he];exact YF) B9 fY S a c w1 h);have a8:=iF (λM X bb S va vc pa pc ma mc w1=>TL [] (L50.take 1) B9 [97,110,110] B9 AU 40 B9 B9 false go40.2 gR M X bb S va vc pa pc ma mc w1);have a9:=iF (λM X bb S va vc pa pc ma mc w1=>TL (L50.take 1) (L50.take 2) B9 [97,110,110] B9 AU 41 B9 B9 true go41.2 gS M X bb S va vc pa pc ma mc w1);have ba:=iF (λM X bb S va vc pa pc ma mc w1=>TL (L50.take 2) L50 B9 [98,111,98] B9 AU 41 B9 B9 true go41.2 gT M X bb S va vc pa pc ma mc w1);refine Ad func11 ntmps11 rfl rfl (eK ?_);refine C1 (xB [_,_,_]) (eQ rfl (al.out _) ?_);rintro _ dt ⟨du,dv,dw,dx,dy,dz,⟨⟩,h7,h8,h9,an⟩;have d0:=an.size;have N:=N.ext an;refine C1 (xB [_,_,_,_,_,_,_,_,_,_,_,_]) (Aw (xS [_,_,_,_,_,_,_,_,_,_,_,_]) rfl ?_ aFh);rintro _ d1 ⟨d2,rfl,ab,d3⟩;have d4:=ab.blk;have bc:=ab.ext;have d5:=ab.pos;have d6:=ab.size;revert h7 h8 N;refine eE bc ?_;intro h7 h8 N;refine eQ rfl (HN.out _ _ _ _ (aR (e:=e50) Ae Ae Ae Ae)) ?_;rintro _ d7 ⟨V,d8,d9,⟨⟩,ao,ap,aq⟩;have z28:=aq.size;have N:=N.ext aq;refine eK ?_
 refine eK ?_;refine C1 (Fq Ac rfl rfl) (kQ (al.out _) ?_);rintro _ b6 ⟨b7,b8,b9,ca,cb,cc,⟨⟩,ea,eb,ec,ar⟩;revert ao N;refine eY ar ?_;intro cd ao N;refine eQ rfl (a8.out _ _ _ _ _ _ _ _ _ _ _ Ae Ae Ae Ae) ?_;rintro _ ce ⟨bd,cf,cg,ch,be,bf,bg,bh,bi,bj,bk,⟨⟩,ah,Y,au,ac⟩;have ci:=ac.size;have N:=mQ N ac (λk hk=>by have:=ap k (iH hk);omega);refine eK ?_;refine xA [_,_,_,_,_,_] ?_;intro ad cj av;refine eI [_,_,_,_,_,_] av ?_;intro ck G aw cl cm;revert Y N;refine eE aw ?_;intro Y N;refine C1 Pa (cT ?_);have ai:∀k,ah k->w.heap.size<=k/\k≠ad:=λk hk=>by
  obtain ⟨k1|k1,k2⟩:=au k hk
  . have:=ap k (iH k1);omega
  . omega
 refine kQ (am.out _) ?_;rintro _ cn ⟨co,cp,cq,cr,ct,cu,⟨⟩,ed,ee,ef,ax⟩;revert G Y N;refine eY ax ?_;intro cv G Y N;refine eQ rfl (a9.out _ _ _ _ _ _ _ _ _ _ _ Ae Ae Ae Ae) ?_;rintro _ cw ⟨bl,cx,cy,cz,bm,bn,bo,bp,bq,br,bs,⟨⟩,aj,Z,ay,ae⟩;have G:=mH G ae (λe=>(ai _ e).2 rfl);have N:=mQ N ae (λk hk=>(ai k hk).1);refine eK ?_;refine xA [_,_,_,_,_,_] ?_;intro az c0 a0;refine eI [_,_,_,_,_,_] a0 ?_;intro c1 U a1 c2 c3;revert Z G N;refine eE a1 ?_;intro Z G N;refine C1 Pa (cT ?_);have ak:∀k,aj k->w.heap.size<=k/\k≠ad/\k≠az:=λk hk=>by
  obtain ⟨k1|k1,k2⟩:=ay k hk
  . have:=ai k k1;omega
  . omega
 refine kQ (am.out _) ?_;rintro _ c4 ⟨c5,c6,c7,c8,c9,da,⟨⟩,eg,eh,ei,a2⟩;revert U Z G N;refine eE a2 ?_;intro U Z G N;refine eQ rfl (ba.out _ _ _ _ _ _ _ _ _ _ _ Ae Ae Ae Ae) ?_;rintro _ db ⟨bt,dc,dd,de,bu,bv,bw,bx,bz,b0,b1,⟨⟩,b2,O,df,aa⟩;have U:=mH U aa (λe=>(ak _ e).2.2 rfl);have G:=mH G aa (λe=>(ak _ e).2.1 rfl);have N:=mQ N aa (λk hk=>(ak k hk).1);refine eK ?_;refine xA [_,_,_,_,_,_] ?_;intro dg dh a3;refine eI [_,_,_,_,_,_] a3 ?_;intro di _ a4 _ _;revert O U G N;refine eE a4 ?_;intro O U G N;refine C1 Pa (cT ?_);have hp:∀e∈[e50],0<=e.points/\e.points<=1000:=λe he=>by rw [i8] at he;rw [he];decide
 have HA:=iF (λM X w1 h=>Tb M X V [e50] L50 [97,110,110] [105,110,99] w1 h);have HP:=iF (λM X w1 h=>Id M X V [e50] B9 hp L50 [97,110,110] w1 h);have HQ:=iF (λM X w1 h=>Id M X V [e50] B9 hp L50 [98,111,98] w1 h);have HR:=iF (λM X w1 h=>OZ M X V [e50] B9 hp L50 B9 w1 h);have HS:=iF (λS S' a a' c c' w1 h1 h2=>K9 [[98,111,98],[97,110,110]] [[98,111,98],[97,110,110]] B9 S S' a a' c c' w1 h1 h2);rw [decide_eq_true rfl] at HS;rw [pts50.2.2.1] at HA;rw [pts50.1] at HP;rw [pts50.2.1] at HQ;rw [pts50.2.2.2] at HR;refine kC (HP.out _ _ _ Ae) ?_;rintro _ ej ⟨⟨⟩,b3⟩;revert O N;refine eE b3 ?_;intro O N;refine kC (HQ.out _ _ _ Ae) ?_;rintro _ ek ⟨⟨⟩,b4⟩;revert O N;refine eE b4 ?_;intro O N;refine kC (HA.out _ _ _ Ae) ?_;rintro _ el ⟨⟨⟩,b5⟩;revert O N;refine eE b5 ?_;intro O N;refine kQ (HR.out _ _ _ Ae) ?_;rintro _ dk ⟨dl,dm,⟨⟩,af,a5⟩;have N:=N.ext a5;refine Qj (Aw (xS [_,_]) rfl ?_ aFh);rintro _ dn ⟨dp,rfl,ag,dq⟩;have dr:=ag.blk;have a6:=ag.ext;revert af N;refine eE a6 ?_;intro af N;refine Qj (cC rfl (HS.out _ _ _ _ _ _ _ (NamAt.rows Ae) (Sh Ae)) ?_);rintro _ ds ⟨⟨⟩,a7⟩;have N:=N.ext a7;refine kR ?_;exact ⟨rfl,N⟩
def Si (N:Nat):∀(t:Nd) (S:nP) (a:oA) (c:Nat) (w:wD),t.size<N->t.wf->t.sits S w a ->
 Calls prog 55 #[t.val a c] w λe w'=> ∃n:Int,e = .returned (.int .i64 n)/\Ext w w':=by
 induction N with
 | zero=>intro t S a c w h;omega
 | succ N ih=>
  rintro ⟨k,n,s,l⟩ S a c w hN hM G;have IH:=iF ih;simp only [nm] at G;simp only [Nd.size] at hN;obtain ⟨-,-,-,-,-,hl,V⟩:=hM;have X:=Ne w;refine Ad func55 ntmps55 rfl rfl (cS (eB [_,_,_,_] ?_));intro b1 w2 h4 x5 _ _;revert G X;refine eE x5 ?_;intro G X;refine eK ?_;refine AP (ι:=Nat×Int) (λx=>[(9,.int .i64 x.1),(8,.int .i64 l.length),(7,.slice a l.length c),(3,.int .i64 x.2)]) (λx w'=>rowSits S w' l a/\Ext w w'/\x.1<=l.length) (λx=>l.length-x.1) (0,1) sB ⟨G,X,iT _⟩ ?_;rintro ⟨j,q⟩ w1 ⟨G,X,hj⟩;simp only at hj;by_cases M:j<l.length
  . obtain ⟨kb,ko,rfl,ad,O⟩:=BI G (by intro e;subst e;simp at M);obtain ⟨xa,xc,rx,sx⟩:=O j l[j] (iE M);have ae:=Ej (iS M);have Y:=BD V _ (iS M);generalize l[j]=x at *;refine eK ?_;refine xA [_,_,_,_] ?_;intro af ag Z;refine eI [_,_,_,_] Z ?_;intro ah ai aa _ _;revert X G sx;refine eE aa ?_;intro X G sx;refine eK ?_;refine Aw (AM AU rfl (IH.out _ S _ _ _ Ab Y Ae) (λ_ _ ⟨_,h⟩=>⟨_,h.1⟩)) rfl ?_ aFh;rintro _ ac ⟨ab,⟨⟩,U⟩;revert X G;refine eE U ?_;intro X G;refine C1 (JP (a:=q) rfl rfl) (eK ?_);exact AA (j+1,KH (q+ab)) sB ⟨G,X,M⟩ (by simp only;omega)
  . have:j=l.length:=by omega
    subst this;refine kR ?_;exact ⟨_,rfl,X⟩
def Q01 (p:Prop) (w:wD):Ending->wD->Prop:=λe w'=> ∃q:Int,e = .returned (.int .i64 q)/\(q=0\/q=1/\p)/\Ext w w'
def Q01.ret {p:Prop} (h:Q01 p w e w'):∃v,e = .returned v:=by
 obtain ⟨_,h,-⟩:=h;exact ⟨_,h⟩
def Uy (p:PG) (hp:p.wf) (S:nP) (Y:oA) (vc:Nat) (O:oA) (pc:Nat) (U:oA) (Z:Nat) (w:wD) (hs:p.sits S w Y O U) :
 Calls prog 27 #[.agg (p.cells Y vc O pc U Z).toArray] w (Q01 (p.vars.length<=4) w):=by
 have X:=Ne w;have hm:=hs.main;have M:=hs.procs.ltA;have aa:=hp.main;have ab:=iF hp.procs;have ag:=hp.np;obtain ⟨pv,G,pm⟩:=p;simp only at *;have HM:=iF (λw1 h=>Si (pm.size+1) pm S U Z w1 Ab aa h);obtain ⟨mk,mn,ms,ml⟩:=pm;have HZ:=iF (λ(b:PD) (hb:b∈G) (S:nP) a c w1 h=>Si (b.body.size+1) b.body S a c w1 Ab (ab.out b hb).body h);change Calls prog _ #[.agg #[.slice Y pv.length vc,.slice O G.length pc,.int .u8 mk,.int .i64 mn,str ms,.slice U ml.length Z]] w _;refine Ad func27 ntmps27 rfl rfl ?_
 focus
  refine cS (eB [_,_,_,_,_,_] ?_);intro b1 w2 N x5 _ _;revert X M hm;refine eE x5 ?_;intro X M hm;refine eK ?_;refine B8 rfl rfl rfl (λc8=>?_) (λc8=>?_);refine kR ?_;rotate_left;refine eK ?_;refine B8 rfl rfl rfl (λc9=>?_) (λc9=>?_);refine kR ?_;rotate_left;refine eK ?_;refine Aw (AM AU rfl (HM.out _ Ae) (λ_ _ ⟨_,h⟩=>⟨_,h.1⟩)) rfl ?_ aFh;rintro _ ah ⟨ai,⟨⟩,ac⟩;revert N X M;refine eE ac ?_;intro N X M;refine eK ?_;refine Az rfl (λad=>?_) (λad=>?_);refine kR ?_;rotate_left;refine Ao (Ai (Aj (cS (C1 Pa (cT ?_)))));rotate_left
 all_goals try exact ⟨0,rfl,iG rfl,X⟩
 refine Au ?_;refine AP (ι:=Nat) (λj=>[(1,pt b1),(3,.int .i64 j)])
  (λj w'=>j<=G.length/\Blk w' b1 [.slice Y pv.length vc,.slice O G.length pc,.int .u8 mk,.int .i64 mn,str ms,.slice U ml.length Z]/\PDs (· < w.heap.size) w' G O/\Ext w w') (λj=>G.length-j) 0 sB ⟨iT _,N,M,X⟩ ?_
 rintro j w1 ⟨hj,N,M,X⟩;by_cases V:j<G.length
 . obtain ⟨kb,ko,rfl,-,hk⟩:=m5 M Ab;obtain ⟨aj,ak,al,am,rx,-,sx⟩:=hk j G[j] (iE V);have HY:=iF (HZ.out G[j] (iS V));generalize G[j]=x at *;obtain ⟨xn,an,bk,bn,bs,bl⟩:=x;unfold PD.cells at rx;simp only at *
   focus
    refine eK ?_;refine BU [_,_,_,_] Ac rfl rfl rfl rx rfl rfl rfl (Aw (AM AU rfl (HY.out _ _ _ _ Ae) (λ_ _ ⟨_,h⟩=>⟨_,h.1⟩)) rfl ?_ aFh);rintro _ ao ⟨ap,⟨⟩,ae⟩;revert X N M;refine eE ae ?_;intro X N M;refine eK ?_;refine Az rfl (λaf=>?_) (λaf=>?_);refine kR ?_;rotate_left;refine Ao (Ah (Ai (Al (C1 Mv (C1 V7 (C1 Pa (Ak ?_)))))));rotate_left
   . exact ⟨0,rfl,iG rfl,X⟩
   . exact AA (j+1) sB ⟨Ab,N,M,X⟩ Ab
 . obtain rfl:j=G.length:=by omega
   refine kR ?_;exact ⟨1,rfl,iH ⟨rfl,Ab⟩,X⟩
structure SB where
 stu:BA
 name:BA
 ans:PG
abbrev SB.cells (s:SB) (va:oA) (vc:Nat) (pa:oA) (pc:Nat) (ma:oA) (mc:Nat):lV:=[str s.stu,str s.name,.slice va s.ans.vars.length vc,.slice pa s.ans.procs.length pc,.int .u8 s.ans.main.kind,.int .i64 s.ans.main.num,str s.ans.main.name,.slice ma s.ans.main.kids.length mc]
structure SB.sits (S:nP) (w:wD) (s:SB) (va pa ma:oA) (vc:Nat):Prop where
 g:s.ans.sits S w va pa ma
 p:PDsC S w s.ans.procs pa
 room:s.ans.vars.length<=vc
def gV (S:nP) (w:wD) (b o:Nat) (s:SB):Prop:= ∃va vc pa pc ma mc,Row w ⟨b,o,none⟩ (s.cells va vc pa pc ma mc)/\s.sits S w va pa ma vc
def SBs (S:nP) (w:wD) (l:List SB) (a:oA):Prop:=Arr S 8 (gV S) w l a
def SB.sits.ext {S:nP} {w w':wD} {s:SB} {G M N:oA} {vc:Nat} (h:s.sits S w G M N vc) (x:Ext w w'):s.sits S w' G M N vc:=⟨h.g.ext x,h.p.ext x,h.room⟩
instance {s:SB} {M N:oA} {vc:Nat}:LfE w w' (s.sits S w a M N vc) (s.sits S w' a M N vc):=⟨λx h=>Bk.SB.sits.ext h x⟩
def SBs.ext {S:nP} {w w':wD} {l:List SB} {a:oA} (h:SBs S w l a) (x:Ext w w'):SBs S w' l a:=
 h.mono aFh (λ_ _ _ _ _ ⟨G,vc,pa,pc,ma,mc,h1,h2⟩=>⟨G,vc,pa,pc,ma,mc,h1.ext x,h2.ext x⟩)
instance {l:List SB}:LfE w w' (SBs S w l a) (SBs S w' l a):=⟨λx h=>Bk.SBs.ext h x⟩
def SBs.ltA {S:nP} {w:wD} {l:List SB} {a:oA} (h:SBs S w l a):SBs (· < w.heap.size) w l a:=by
 rcases h with h|⟨b,o,Z,h2,N⟩
 . exact iG h
 . cases l with
   | nil=>exact iG rfl
   | cons v r=>
    refine iH ⟨b,o,Z,?_,λi x hi=>?_⟩
    . obtain ⟨O,vc,U,V,X,Y,G,-⟩:=N 0 v rfl;exact Cs (mO G rfl)
    . obtain ⟨O,vc,U,V,X,Y,G,M⟩:=N i x hi;exact ⟨O,vc,U,V,X,Y,G,M.g.ltA,M.p.ltA,M.room⟩
def eC (l:List EX) (subs:List SB):Prop:=l.length<=4/\subs.length<=8/\(∀e∈l,e.g.vars.length<=4/\e.fuel<=400) /\ ∀s∈subs,s.ans.vars.length<=4
set_option maxHeartbeats 8000000 in
def aS (l:List EX) (G:List SB) (hl:∀e∈l,e.g.wf) (hb:∀s∈G,s.ans.wf) (S S':nP) (a a':oA) (c c':Nat) (w:wD) (N:EXs S w l a) (M:SBs S' w G a') :
 Calls prog 20 #[.slice a l.length c,.slice a' G.length c'] w (Q01 (eC l G) w):=by
 have X:=Ne w;have N:=N.ltA;have M:=M.ltA;refine Ad func20 ntmps20 rfl rfl ?_
 focus
  refine eK ?_;refine B8 rfl rfl rfl (λc1=>?_) (λc1=>?_);refine kR ?_;rotate_left;refine eK ?_;refine Az rfl (λc2=>?_) (λc2=>?_);refine kR ?_;rotate_left;refine Ao (Ai (Aj (cS (C1 Pa (cT ?_)))));rotate_left
 all_goals try exact ⟨0,rfl,iG rfl,X⟩
 refine Au ?_;refine AP (ι:=Nat) (λj=>[(0,.slice a l.length c),(1,.slice a' G.length c'),(5,.int .i64 j)])
  (λj w'=>j<=l.length/\(∀e∈l.take j,e.g.vars.length<=4/\e.fuel<=400)/\EXs (· < w.heap.size) w' l a/\SBs (· < w.heap.size) w' G a'/\Ext w w') (λj=>l.length-j) 0 sB ⟨iT _,AN,N,M,X⟩ ?_
 rintro j w1 ⟨hj,Z,N,M,X⟩;by_cases O:j<l.length
 . obtain ⟨kb,ko,rfl,-,hk⟩:=m5 N Ab;obtain ⟨va,vc,pa,pc,ma,mc,rx,sx⟩:=hk j l[j] (iE O);have aa:l[j].g.vars.length<=4/\l[j].fuel<=400 -> ∀e∈l.take (j+1),e.g.vars.length<=4/\e.fuel<=400:=λh e V=>by
    rw [iI O,jD,i8] at V;rcases V with V|rfl
    . exact Z e V
    . exact h
   have sg:=sx.g;have ab:=hl _ (iS O);generalize l[j]=x at *;have HT:=iF (λS w1 h=>Uy x.g ab S va vc pa pc ma mc w1 h);unfold EX.cells at *
   focus
    refine eK ?_;refine xA [_,_,_,_,_,_,_,_,_,_,_,_] ?_;intro ap aq ak;refine eI [_,_,_,_,_,_,_,_,_,_,_,_] ak ?_;intro ar ac al _ _;revert M X N sg;refine eE al ?_;intro M X N sg;refine kQ (HT.out _ _ Ae) ?_;rintro _ ao ⟨au,⟨⟩,ad,ae⟩;revert ac M X N;refine eE ae ?_;intro ac M X N;refine eK ?_;refine B8 rfl rfl rfl (λY=>?_) (λY=>?_);refine kR ?_;rotate_left;refine eK ?_;refine B8 rfl rfl rfl (λaf=>?_) (λaf=>?_);refine kR ?_;rotate_left;refine eK ?_;refine B8 rfl rfl rfl (λag=>?_) (λag=>?_);refine kR ?_;rotate_left;refine eK ?_;refine B8 rfl rfl rfl (λah=>?_) (λah=>?_);refine kR ?_;rotate_left;refine eK ?_;refine Az rfl (λai=>?_) (λai=>?_);refine kR ?_;rotate_left;refine Ao (Ah (Ai (Al (C1 Mv (C1 V7 (C1 Pa (Ak ?_)))))));rotate_left
   all_goals try exact ⟨0,rfl,iG rfl,X⟩
   exact AA (j+1) sB ⟨Ab,aa ⟨(ad.resolve_left Y).2,Ab⟩,N,M,X⟩ Ab
 . obtain rfl:j=l.length:=by omega
   rw [iZ] at Z;refine Aj (cS (C1 Mv (C1 Mv (C1 Pz (C1 V3 (cT (DA (Ca (AB (AB (A0 (Ai (Aj (cS (C1 Pa (cT (Au ?_)))))))))))))))));refine AP (ι:=Nat) (λj=>[(1,.slice a' G.length c'),(7,.int .i64 j)])
    (λj w'=>j<=G.length/\(∀e∈G.take j,e.ans.vars.length<=4)/\SBs (· < w.heap.size) w' G a'/\Ext w w') (λj=>G.length-j) 0 sB ⟨iT _,AN,M,X⟩ ?_
   rintro j w1 ⟨hj,U,N,X⟩;by_cases O:j<G.length
   . obtain ⟨kb,ko,rfl,-,hk⟩:=m5 N Ab;obtain ⟨va,vc,pa,pc,ma,mc,rx,sx⟩:=hk j G[j] (iE O);have aa:G[j].ans.vars.length<=4 -> ∀e∈G.take (j+1),e.ans.vars.length<=4:=λh e V=>by
      rw [iI O,jD,i8] at V;rcases V with V|rfl
      . exact U e V
      . exact h
     have sg:=sx.g;have ab:=hb _ (iS O);generalize G[j]=x at *;have HT:=iF (λS w1 h=>Uy x.ans ab S va vc pa pc ma mc w1 h);unfold SB.cells at *
     focus
      refine eK ?_;refine BU [_,_,_,_,_,_] Ac rfl rfl rfl rx rfl rfl rfl (eQ rfl (HT.out _ _ Ae) ?_);rintro _ av ⟨aw,⟨⟩,am,an⟩;revert X N;refine eE an ?_;intro X N;refine eK ?_;refine Az rfl (λaj=>?_) (λaj=>?_);refine kR ?_;rotate_left;refine Ao (Ah (Ai (Al (C1 Mv (C1 V7 (C1 Pa (Ak ?_)))))));rotate_left
     all_goals try exact ⟨0,rfl,iG rfl,X⟩
     exact AA (j+1) sB ⟨Ab,aa (am.resolve_left aj).2,N,X⟩ Ab
   . obtain rfl:j=G.length:=by omega
     rw [iZ] at U;refine kR ?_;exact ⟨1,rfl,iH ⟨rfl,Ab,Ab,Z,U⟩,X⟩
def fZ (l:List EX) (M:∀e∈l,e.wf) (N:l.length<=1000000) {k:Int} (G:Jo l=k) (O:k≠0) (S:nP) (a:oA) (c:Nat) (w:wD) (U:EXs S w l a) :
 Calls prog 13 #[.slice a l.length c] w λe w'=>e = .returned (.tuple #[.pointer none,.int .i64 k])/\Ext w w':=by
 refine jE (bO l M N S a c w U) ?_;rintro e w' ⟨p,V,rfl,rfl,X,⟨rfl,-⟩|⟨h,-⟩⟩
 . exact ⟨by rw [G],X⟩
 . exact absurd (G.symm.trans h) O
def Wo {l:List EX} (h:Jo l=0):(∀e∈l,e.valid)/\(l.map (·.name)).Nodup:=by
 unfold Jo at h;split at h
 . omega
 . split at h
   . split at h
     . exact ⟨Ae,Ae⟩
     . omega
   . omega
end Bk
namespace Bk
open Go Go.RowKit Go.Proofs
variable {M:Nat} {es:List EX} {H:Type} {cs:lV} {c:Value}
def Sj (M X:nP) (G:Nat) (es:List EX) (ac:es.length<=4) (Z:∀e∈es,e.wf/\e.fuel<=400) (L:List AtV) (hL:L.length<=1000) (s n:BA) (h:s.length<=9223372036854775807) (p:PG) (hp:p.wf) (ad:p.vars.length<=4) (S:nP) (O:oA) (vc:Nat) (N:oA) (V:Nat) (U:oA) (Y:Nat) (w:wD)
 (hb:BkAt M X w G es L) (hs:p.sits S w O N U) (aa:PDsC S w p.procs N) (ab:p.vars.length<=vc) :
 Calls prog 14 #[pt G,str s,str n,.agg (p.cells O vc N V U Y).toArray] w (SubR M X G es (CM es L s n p) w):=by
 cases hq:Cv s
 . exact R8 M X G es Ab L s n h p (iG hq) O vc N V U Y w hb
 cases hi:Tc es n with
 | none=>exact R8 M X G es Ab L s n h p (iH hi) O vc N V U Y w hb
 | some i=>
  obtain ⟨e,he,-,-⟩:=NC hi;obtain ⟨h1,h2⟩:=Z e (jh he);exact Sa M X G es Ab L Ab s n h hq e i hi he h1 Ab p hp Ab S O vc N V U Y w hb hs aa ab
def Wp (N:(es.map (·.name)).Nodup) {j:Nat} {e:EX} (h:es[j]? = some e):Tc es e.name=some j:=by
 have G:=(exIV_mem (es:=es) (n:=e.name)).2 (List.mem_map_of_mem (jh h));cases hi:Tc es e.name with
 | none=>unfold Ie at G;rw [hi] at G;exact absurd G B9
 | some i=>
  obtain ⟨V,M,O,-⟩:=NC hi;have U:=(List.getElem?_eq_some_iff.1 M).1;have:=(List.getElem?_inj (i:=i) (j:=j) (l:=es.map (·.name)) (by simpa using U) N).1 (by rw [jl,jl,M,h];exact congrArg some O);rw [this]
def NJ (M:(es.map (·.name)).Nodup) {j:Nat} {e:EX} (h:es[j]? = some e) (N:e.g.wf) (O:e.valid) (L:List AtV) {s:BA} (U:Cv s=true) :
 ∃v:VdV,CM es L s e.name e.g.pinv=((v,0),MP L s e.name true)/\v.ok=true:=by
 obtain ⟨V,G⟩:=Wk N O;refine ⟨(BN e e.g.pinv).1,?_,G⟩;unfold CM;rw [AG U,Wp M h];simp only [h];rw [At (not_not_intro V),G]
def Sm {L:List AtV} {s n:BA} (h:BC L s n=false) (ok:Bool):MP L s n ok=L++[⟨s,n,ok⟩]:=by unfold MP;rw [h];rfl
def Cr:BA:=[122,111,101]
def DZ:BA:=[97,110,110]
def D9:List BA->List AtV
 | []=>[]
 | n::r=>⟨Cr,n,true⟩::r.flatMap λm=>[⟨Cr,m,true⟩,⟨DZ,m,true⟩]
def Wq (m n:BA) (r:List BA):D9 (m::r++[n])=D9 (m::r)++[⟨Cr,n,true⟩]++[⟨DZ,n,true⟩]:=by simp [D9]
def FP (L K:List AtV) (s n:BA):BC (L++K) s n=(BC L s n||BC K s n):=by simp [BC,List.any_append]
def P8 (x:BA):∀r:List BA,BC (r.flatMap λm=>[⟨Cr,m,true⟩,⟨DZ,m,true⟩]) Cr x=decide (x∈r)/\BC (r.flatMap λm=>[⟨Cr,m,true⟩,⟨DZ,m,true⟩]) DZ x=decide (x∈r)
 | []=>⟨rfl,rfl⟩
 | m::r=>by
  obtain ⟨G,M⟩:=P8 x r;rw [kj,FP,FP,G,M];constructor <;> ·
   simp only [BC,List.any_cons,List.any_nil,iU];by_cases e:x=m
   . subst e;simp [Cr,DZ]
   . simp [Cr,DZ,e];exact λh=>absurd h.symm e
def NK (ns:List BA) (x:BA):BC (D9 ns) Cr x=decide (x∈ns):=by
 cases ns with
 | nil=>rfl
 | cons n r=>
  have:=(P8 x r).1;rw [show D9 (n::r)=[⟨Cr,n,true⟩]++r.flatMap λm=>[⟨Cr,m,true⟩,⟨DZ,m,true⟩] from rfl,FP,this];simp only [BC,List.any_cons,List.any_nil,iU];by_cases e:x=n
  . subst e;simp
  . simp [e];exact λh=>absurd h.symm e
def JE (n:BA) (r:List BA) (x:BA):BC (D9 (n::r)) DZ x=decide (x∈r):=by
 have:=(P8 x r).2;rw [show D9 (n::r)=[⟨Cr,n,true⟩]++r.flatMap λm=>[⟨Cr,m,true⟩,⟨DZ,m,true⟩] from rfl,FP,this];simp [BC,Cr,DZ]
def P9 {L:List AtV} {s:BA}:∀ps:List (BA×Int),(∀x∈ps,BC L s x.1=true)->CE L s ps=(ps.map (·.2)).sum
 | [],_=>rfl
 | x::r,h=>by rw [CE,P9 r (λy G=>h y (js _ G)),AG (h x (jx ..)),jo,List.sum_cons]
def Uz (M:(es.map (·.name)).Nodup):CE (D9 (es.map (·.name))) Cr (GI es)=(es.map (·.points)).sum:=by
 rw [P9]
 . unfold GI;rw [List.map_map];rfl
 . intro x h;unfold GI at h;obtain ⟨e,G,rfl⟩:=List.mem_map.1 h;rw [NK];exact decide_eq_true (List.mem_map_of_mem G)
def UA {e:EX} (h:((e::es).map (·.name)).Nodup):CE (D9 ((e::es).map (·.name))) DZ (GI (e::es))=(es.map (·.points)).sum:=by
 rw [jo,List.nodup_cons] at h;rw [jo,show GI (e::es)=(e.name,e.points)::GI es from rfl,CE,At (by rw [JE];simpa using h.1),P9]
 . unfold GI;rw [List.map_map,Int.zero_add];rfl
 . intro x G;unfold GI at G;obtain ⟨N,M,rfl⟩:=List.mem_map.1 G;rw [JE];exact decide_eq_true (List.mem_map_of_mem M)
def YG:∀l:List EX,(∀e∈l,0<=e.points/\e.points<=1000)->0<=(l.map (·.points)).sum/\(l.map (·.points)).sum<=1000*l.length
 | [],_=>⟨mh _,mh _⟩
 | e::r,h=>by
  have M:=YG r (λx G=>h x (js _ G));have N:=h e (jx ..);simp only [jo,List.sum_cons,iM];omega
def YH {l:List EX} (U:(l.map (·.name)).Nodup) {i:Nat} (N:i<l.length) :
 (l.take (i+1)).map (·.name)=(l.take i).map (·.name)++[l[i].name]/\((l.take (i+1)).map (·.points)).sum=((l.take i).map (·.points)).sum+l[i].points/\BC (D9 ((l.take i).map (·.name))) Cr l[i].name=false /\
 (i=0->D9 ((l.take (i+1)).map (·.name))=D9 ((l.take i).map (·.name))++[⟨Cr,l[i].name,true⟩])/\(0<i->BC (D9 ((l.take i).map (·.name))++[⟨Cr,l[i].name,true⟩]) DZ l[i].name=false/\D9 ((l.take (i+1)).map (·.name))=D9 ((l.take i).map (·.name))++[⟨Cr,l[i].name,true⟩]++[⟨DZ,l[i].name,true⟩]):=by
 have G:(l.take (i+1)).map (·.name)=(l.take i).map (·.name)++[l[i].name]:=by rw [iI N,jJ];rfl
 have M:l[i].name∉(l.take i).map (·.name):=by
  have h:=((List.take_sublist (i+1) l).map (·.name)).nodup U;rw [G,List.nodup_append] at h;exact λV=>h.2.2 _ V _ (i8.2 rfl) rfl
 refine ⟨G,by rw [iI N,jJ,List.sum_append];simp,by rw [NK];exact decide_eq_false M,λO=>by rw [G];subst O;rfl,λO=>?_⟩;rw [G];obtain ⟨m,r,X⟩:∃m r,(l.take i).map (·.name)=m::r:=by
  cases hx:(l.take i).map (·.name) with
  | nil=>have:=congrArg List.length hx;rw [kz,jp,ji] at this;omega
  | cons m r=>exact ⟨m,r,rfl⟩
 rw [X] at M ⊢;refine ⟨?_,Wq _ _ _⟩;rw [FP,JE,decide_eq_false (λh=>M (js _ h))];simp [BC,Cr,DZ]
def Sn {lt:BA->BA->Bool} {o:List BA}:∀L:List AtV,(∀a∈L,a.s∈o)->L.foldl (λo a=>if a.s∈o then o else Hc lt a.s o) o=o
 | [],_=>rfl
 | a::L,h=>by
  rw [List.foldl_cons,AG (h a (jx ..))];exact Sn L (λb G=>h b (js _ G))
def YI {e:EX} (M:((e::es).map (·.name)).Nodup) (Y:1<=e.points):G5 (Oo (D9 ((e::es).map (·.name))) (GI (e::es))) (D9 ((e::es).map (·.name)))=if es=[] then [Cr] else [Cr,DZ]:=by
 cases es with
 | nil=>rfl
 | cons h r=>
  have U:=Uz M;have V:=UA M;have G:Oo (D9 ((e::h::r).map (·.name))) (GI (e::h::r)) Cr DZ=true:=by
   unfold Oo;rw [U,V,decide_eq_true_eq];left;simp only [jo,List.sum_cons];omega
  generalize N:Oo (D9 ((e::h::r).map (·.name))) (GI (e::h::r))=lt at *;rw [At AN];unfold G5;rw [show D9 ((e::h::r).map (·.name))=⟨Cr,e.name,true⟩::⟨Cr,h.name,true⟩::⟨DZ,h.name,true⟩::(r.map (·.name)).flatMap (λm=>[⟨Cr,m,true⟩,⟨DZ,m,true⟩]) from rfl];simp only [List.foldl_cons];rw [At (show ¬Cr∈([]:List BA) by simp),show Hc lt Cr []=[Cr] from rfl,AG (show Cr∈[Cr] by simp),At (show ¬DZ∈[Cr] by simp [Cr,DZ]),show Hc lt DZ [Cr]=[Cr,DZ] from by rw [Hc,AG G];rfl];apply Sn;intro a X;obtain ⟨m,-,O⟩:=List.mem_flatMap.1 X;simp only [iU,jB,or_false] at O;rcases O with rfl|rfl<;>simp
def cA {M G:nP} {N n m:Nat} (h:∀k,G k->M k\/n<=k/\k<m) (U:N<=n):∀k,G k->M k\/N<=k:=λk O=>(h k O).imp id (λg=>by omega)
def aT {l:List EX} (h:(l.map (·.name)).Nodup) (G:∀e∈l,1<=e.points/\e.points<=1000) (M:0<l.length) :
 CE (D9 (l.map (·.name))) Cr (GI l)=(l.map (·.points)).sum/\CE (D9 (l.map (·.name))) DZ (GI l)=(l.map (·.points)).sum-l[0].points/\G5 (Oo (D9 (l.map (·.name))) (GI l)) (D9 (l.map (·.name)))=if l.length=1 then [Cr] else [Cr,DZ]:=by
 cases l with
 | nil=>simp at M
 | cons e r=>
  refine ⟨Uz h,?_,?_⟩
  . rw [UA h,jo,List.sum_cons];show _=e.points+_-e.points;omega
  . rw [YI h (G e (jx ..)).1];cases r<;>simp
def So:∀ns:List BA,(D9 ns).length<=2*ns.length
 | []=>iW _
 | n::r=>by
  unfold D9;simp only [iM];have:(r.flatMap λm=>[(⟨Cr,m,true⟩:AtV),⟨DZ,m,true⟩]).length=2*r.length:=by
   induction r with
   | nil=>rfl
   | cons m r h=>rw [kj,iX,h];simp;omega
  omega
attribute [local irreducible] Go.Calls
def YJ {w:wD} {b:Nat} (h:Blk w b cs):Rows (λ_=>True) w cs (some ⟨b,0,none⟩):=iH ⟨b,0,rfl,trivial,h.row⟩
section
variable {L:List AtV}
end
def BkAt.ltX {G X:nP} {w:wD} {L:List AtV} (h:BkAt G X w M es L):∀k,X k\/G k->k<w.heap.size:=by
 obtain ⟨_,_,_,-,-,-,-,N,O⟩:=h;exact λk U=>U.elim (λh=>(N k h).2) (O k)
section
variable {P:Program} {n:Nat} {l:Sl} {S:wD->Prop} {t t':Nat} {x y:Operand} {ty:TypeId} {a b:lB}
end
set_option maxHeartbeats 8000000 in
def aU (l:List EX) (hl:∀e∈l,e.name.length<=9223372036854775807/\e.g.wf) (S:nP) (a:oA) (c:Nat) (w:wD) (N:EXs S w l a) :
 Calls prog 10 #[.slice a l.length c] w λe w'=>e = .returned (.bool true)/\Ext w w':=by
 have X:=Ne w;have N:=N.ltA;have HM:=iF (λw1 h=>aS l [] (λe he=>(hl e he).2) AN (· < w.heap.size) (λ_=>True) a none c 0 w1 h (iG rfl));simp only [ji] at HM;refine Ad func10 ntmps10 rfl rfl ?_
 focus
  refine kC (Wn _) ?_;rintro _ w2 ⟨⟨⟩,x1⟩;revert X N;refine eY x1 ?_;intro z3 X N;refine kQ (HM.out _ Ae) ?_;rintro _ w7 ⟨q4,⟨⟩,h5,x6⟩;revert X N;refine eY x6 ?_;intro z8 X N;refine eK ?_;refine B8 rfl rfl rfl (λc9=>?_) (λc9=>?_);refine kR ?_;rotate_left;refine eK ?_;refine Az rfl (λdl=>?_) (λdl=>?_);refine kR ?_;rotate_left;refine Ao (Ai ?_);rotate_left
 . exact ⟨rfl,X⟩
 . exact ⟨rfl,X⟩
 obtain ⟨cr,-,ax,-⟩:=(h5.resolve_left c9).2;have hw:∀e∈l,e.wf/\e.fuel<=400:=λe he=>⟨⟨(hl e he).1,(hl e he).2,by have:=(ax e he).1;omega⟩,(ax e he).2⟩
 clear hl h5 HM;rcases Decidable.em (Jo l=0) with h0|h0
 case inr=>
  have HN:=iF (λw1 h=>fZ l (λe he=>(hw e he).1) Ab rfl h0 (· < w.heap.size) a c w1 h);refine kC (HN.out _ Ae) ?_;rintro _ hd ⟨⟨⟩,dm⟩;revert X N;refine eY dm ?_;intro hf X N;refine kR ?_;all_goals exact ⟨rfl,X⟩
 have HN:=iF (λw1 h=>bZ l (λe he=>(hw e he).1) Ab h0 (· < w.heap.size) a c w1 h);refine kQ (HN.out _ Ae) ?_;rintro _ hg ⟨ad,ct,ao,⟨⟩,cu,cv,dn⟩;revert X N;refine eY dn ?_;intro hh X N;refine eK ?_;refine C1 (Fq Ac rfl rfl) (C1 bB (cT (Ba rfl (Ao (Ai (cS (C1 Pa (cT (Aj (cS (C1 Pa ?_)))))))))));refine cT ?_;obtain ⟨ay,be⟩:=Wo h0;have hp:∀e∈l,0<=e.points/\e.points<=1000:=λe he=>by have:=(ay e he).1.2.1;omega
 have hX:∀k,ao k\/ct k->w.heap.size<=k:=λk hk=>by have:=cv k hk;have:=X.size;omega
 clear HN h0 cv;refine Au ?_;refine AP (ι:=Nat×(nP)) (λy=>[(0,.slice a l.length c),(3,pt ad),(5,.int .i64 ((l.take y.1).map (·.points)).sum),(6,.int .i64 y.1)])
  (λy w'=>y.1<=l.length/\BkAt y.2 ao w' ad l (D9 ((l.take y.1).map (·.name)))/\(∀k,y.2 k->w.heap.size<=k)/\EXs (· < w.heap.size) w' l a/\Ext w w') (λy=>l.length-y.1) (0,ct) sB ⟨iT _,cu,λk hk=>hX k (iH hk),N,X⟩ ?_
 clear cu N X;rintro ⟨i,M⟩ w1 ⟨hi,O,hM,N,X⟩;simp only at hi O hM;refine nq (m:=[(0,.slice a l.length c),(3,pt ad),(5,.int .i64 ((l.take i).map (·.points)).sum),(6,.int .i64 i)]) ?_ sB;have hj:=X.size;have ai:=BkAt.ltX O;by_cases bf:i<l.length
 . obtain ⟨n1,n2,n3,n5,n4⟩:=YH be bf;have cj:=So ((l.take i).map (·.name));have dp:=YG (l.take i) (λe he=>hp e (jY he));have eg:(l.take i).length<=4:=by rw [jp];omega
   rw [kz] at cj;have ck:=iE bf;have az:=iS bf;obtain ⟨kb,ko,rfl,cl,hk⟩:=m5 N Ab;obtain ⟨bv,bw,bx,bz,b0,b1,Y,sx⟩:=hk i l[i] ck;have av:¬M kb:=λh=>by have:=hM _ h;have:kb<w.heap.size:=cl;omega
   clear hk;generalize l[i]=e at *;obtain ⟨bg,hm⟩:=hw e az;have bh:=ay e az;have hn:=(ax e az).1;have ho:=hp e az;have b5:=iF (λw1 h=>Zt e bg bh (· < w.heap.size) bv bw bx bz b0 b1 w1 h);generalize D9 ((l.take i).map (·.name))=L at *;generalize ((l.take i).map (·.points)).sum=sm at *;obtain ⟨v1,cm,-⟩:=NJ be ck bg.g bh L (s:=Cr) B9;rw [Sm n3] at cm;unfold EX.cells at *;refine eK ?_;refine Aw (AM AU rfl (b5.out _ Ae) (λ_ _ ⟨_,_,_,_,_,_,h⟩=>⟨_,h.1⟩)) rfl ?_ aFh;rintro _ a0 ⟨a1,bi,aq,bj,a2,bk,⟨⟩,U,V,cw,cx⟩;revert X N Y sx O;refine eY cx ?_;intro eh X N Y sx O;refine eK ?_;refine xA [_,_,_,_,_,_] ?_;intro b6 ei cy;refine eI [_,_,_,_,_,_] cy ?_;intro ar G cz ej ek;revert U V X N Y sx O;refine eE cz ?_;intro U V X N Y sx O;refine C1 Pa (cT (Aj (cS (C1 Mv (C1 V2 (cT (LT (Ao (Ai (Aj ?_))))))))));obtain ⟨hq,hr,⟨ht,hu,hv⟩,hx⟩:=v1;have HS:=iF (λwv h1 h2 h3=>Sj M ao ad l cr hw L Ab Cr e.name B9 e.g.pinv (PG.pinv_wf bg.g bh.2.1.1) (show e.g.vars.length<=4 by omega) (λb=>w1.heap.size<=b/\b<a0.heap.size) a1 bi aq bj a2 bk wv h1 h2 h3 cw);rw [cm] at HS;clear b5 sx cm;unfold PG.cells at *;have el:=X.size;refine E2 (ι:=nP) (λ_=>[(0,.slice (some ⟨kb,ko,none⟩) l.length c),(3,pt ad),(5,.int .i64 sm),(6,.int .i64 i),(7,pt b6),(10,.int .i64 0)]) (λM1 w'=>BkAt M1 ao w' ad l (L++[⟨Cr,e.name,true⟩])/\(∀k,M1 k->M k\/ar.heap.size<=k)/\Blk w' b6 [.slice a1 e.g.pinv.vars.length bi,.slice aq e.g.pinv.procs.length bj,.int .u8 e.g.pinv.main.kind,.int .i64 e.g.pinv.main.num,str e.g.pinv.main.name,.slice a2 e.g.pinv.main.kids.length bk]/\PG.sits (λb=>w1.heap.size<=b/\b<a0.heap.size) w' e.g.pinv a1 aq a2/\PDsC (λb=>w1.heap.size<=b/\b<a0.heap.size) w' e.g.pinv.procs aq/\EXs (· < w.heap.size) w' l (some ⟨kb,ko,none⟩)/\Row w' ⟨kb,ko+i*12,none⟩ [str e.name,.int .i64 e.points,.int .i64 e.fuel,.int .i64 e.box.v,.int .i64 e.box.l,.int .i64 e.box.i,.slice bv e.g.vars.length bw,.slice bx e.g.procs.length bz,.int .u8 e.g.main.kind,.int .i64 e.g.main.num,str e.g.main.name,.slice b0 e.g.main.kids.length b1]/\Ext w w'/\ar.heap.size<=w'.heap.size) ?_ ?_
   . focus
      refine Aq (λwz=>Fr (M ·) ar wz) 13 (.pure 0 (.pure 1 (.pure 2 (.pure 3 (.pure 4 (.pure 5 (.pure 6 (.fork 7 (.pure 8 (.pure 9 (.pure 10 (.fork 11 (.fork 12 .tail .none) .none)))) (.fork 11 (.fork 7 (.pure 8 (.pure 9 (.pure 10 (.fork 12 .tail .none)))) .none) .none))))))))) mixed AU (Aa (Aa (Af (Aa (Aa (Af (Aa Ag))))))) ?_;intro dq c0 _;have Z:(λwz=>Fr (M ·) ar wz) dq:=mG c0;simp only at Z;have ap:=G;have cn:=U;have co:=V;have bl:=N;have al:=Y;have bm:=O;revert G U V X N Y O;refine eY c0 ?_;intro hy G U V X N Y O;refine ⟨Z,?_⟩;refine eT ?_;refine Tq rfl (Ap Ac rfl rfl rfl (λwz hz=>mO (mT al hz (by first|omega|(dsimp only;omega))) rfl)) (Tq rfl (xL [_,_,_,_,_,_] (λwz hz=>(mH ap hz (λe=>by have:=ai _ (iH e);omega)))) ?_);refine AC rfl (AM AU rfl (HS.out _ Ae Ae Ae) (λ_ _ h=>h.ret)) rfl ?_ aFh ?krd5;rintro _ en ⟨h4,h6,eo,ep,dr,ds,⟨⟩,a3,eq,dt,er,et,a4,ag⟩;have eu:=ag.size;have Z:=mL Z ag (λk hk=>iG hk);have G:=mH G ag (λe=>by have:=ai _ (iH e);omega);have U:=ny U ag (λb O hT=>by have:=ai _ (iH hT);(try dsimp only at O);omega);have V:=PDsC.fr V ag (λb O hT=>by have:=ai _ (iH hT);(try dsimp only at O);omega);have X:=mQ X ag (λk hk=>hM k hk);have N:=EXs.fr N ag (λb O hT=>by have:=hM _ hT;(try dsimp only at O);omega);have Y:=mT Y ag (av);clear O ag;refine ⟨Z,?_⟩;refine eT ?_;refine AC rfl (A2 CC rfl) rfl ?_ aFh Ay;rintro _ ew ⟨ex,rfl,a5⟩;have b7:=a5.blk;dsimp only at b7;have c1:=a5.ext;have ey:=a5.pos;have ez:=a5.size;revert a3 a4 Z G U V X N Y;refine eE c1 ?_;intro a3 a4 Z G U V X N Y;refine ⟨Z,?_⟩;refine Cq [_,_,_,_,_,_] [_,_,_,_,_,_] rfl Ac rfl rfl rfl rfl rfl rfl b7 rfl rfl ?_ Ay;intro e0 bn;have e4:=bn.blk;have bo:=bn.fr;have e5:=bn.size;have a3:=nt a3 bo Ab;have a4:=BkAt.fr a4 bo (λk hk e=>hk.elim (λg=>by have:=ai k (iG g);(try dsimp only at e);omega) (λg=>((by assumption:∀k,_->M k\/_<=k/\k<_) k g).elim (λg2=>by have:=ai k (iH g2);(try dsimp only at e);omega) (λg2=>by (try dsimp only at e);omega)));revert Z G U V X N Y;refine eF bo ?_;intro Z G U V X N Y;refine ⟨Z,?_⟩
      refine Ar rfl (C1 Pa (Ak ?_));rotate_left;refine AC rfl (A2 CC rfl) rfl ?_ aFh Ay;rintro _ e6 ⟨e7,rfl,a6⟩;have a7:=a6.blk;dsimp only at a7;have c2:=a6.ext;have e8:=a6.pos;have e9:=a6.size;revert Z G U V X N Y O;refine eE c2 ?_;intro Z G U V X N Y O;refine ⟨Z,?_⟩;refine tC rfl rfl (HS.out _ Ae Ae Ae) ?_;rintro _ fa ⟨fb,fc,du,dv,dw,dx,⟨⟩,b8,fd,dy,fe,ff,b9,af⟩;have fg:=af.size;have a7:=mH a7 af (λe=>by have:=ai _ (iH e);omega);have Z:=mL Z af (λk hk=>iG hk);have G:=mH G af (λe=>by have:=ai _ (iH e);omega);have U:=ny U af (λb O hT=>by have:=ai _ (iH hT);(try dsimp only at O);omega);have V:=PDsC.fr V af (λb O hT=>by have:=ai _ (iH hT);(try dsimp only at O);omega);have X:=mQ X af (λk hk=>hM k hk);have N:=EXs.fr N af (λb O hT=>by have:=hM _ hT;(try dsimp only at O);omega);have Y:=mT Y af (av);clear O af;refine ⟨Z,?_⟩;refine eT ?_;refine Cq [_,_,_,_,_,_] [_,_,_,_,_,_] rfl Ac rfl rfl rfl rfl rfl rfl a7 rfl rfl ?_ Ay;intro fh bp;have fj:=bp.blk;have bq:=bp.fr;have fk:=bp.size;have b8:=nt b8 bq Ab;have b9:=BkAt.fr b9 bq (λk hk e=>hk.elim (λg=>by have:=ai k (iG g);(try dsimp only at e);omega) (λg=>((by assumption:∀k,_->M k\/_<=k/\k<_) k g).elim (λg2=>by have:=ai k (iH g2);(try dsimp only at e);omega) (λg2=>by (try dsimp only at e);omega)));revert Z G U V X N Y;refine eF bq ?_;intro Z G U V X N Y;refine ⟨Z,?_⟩;refine Ar rfl (C1 Pa (Ak ?_));rotate_left
     all_goals exact BQ _ sC ⟨by dsimp only at *;assumption,cA Ae Ab,Ae,Ae,Ae,Ae,Ae,Ae,Ab⟩
   clear HS O G U V N Y X av;rintro M1 w2 ⟨O,b2,G,U,V,N,Y,X,h7⟩;have aw:∀k,M1 k->w.heap.size<=k:=λk hk=>(b2 k hk).elim (hM k) (λg=>by omega)
   by_cases dz:i=0
   . have d0:¬(0:Int)<(i:Int):=by omega
     refine eK ?_;refine C1 (Pw Y) (C1 V7 (C1 Pa (Ak (Ah (Ai (Al (C1 Mv (C1 V7 (C1 Pa (Ak ?_))))))))));rw [<-n2];exact AA (i+1,M1) sB ⟨bf,by dsimp only;rw [n5 dz];exact O,aw,N,X⟩ (by simp only;omega)
   . have d0:(0:Int)<(i:Int):=by omega
     obtain ⟨n6,n7⟩:=n4 Ab;have av:¬M1 kb:=λh=>by have:=aw _ h;have:kb<w.heap.size:=cl;omega
     have au:=BkAt.ltX O;have am:∀k,M1 k->k<w1.heap.size\/ar.heap.size<=k:=λk hk=>(b2 k hk).imp (λg=>ai k (iH g)) id
     obtain ⟨v2,c3,-⟩:=NJ be ck bg.g bh (L++[⟨Cr,e.name,true⟩]) (s:=DZ) B9;rw [Sm n6] at c3;obtain ⟨fl,fm,⟨fo,fp,fq⟩,fs⟩:=v2;have HS:=iF (λwv h1 h2 h3=>Sj M1 ao ad l cr hw (L++[⟨Cr,e.name,true⟩]) (by rw [iX,kn];omega) DZ e.name B9 e.g.pinv (PG.pinv_wf bg.g bh.2.1.1) (show e.g.vars.length<=4 by omega) (λb=>w1.heap.size<=b/\b<a0.heap.size) a1 bi aq bj a2 bk wv h1 h2 h3 cw);rw [c3] at HS;unfold PG.cells at *;refine cS (C1 Mv (C1 V2 (cT (LT (Ao (Ai (Aj (cS (C1 Mv (C1 V5 (cT ?_)))))))))));refine YO ?_;refine E2 (ι:=nP) (λ_=>[(0,.slice (some ⟨kb,ko,none⟩) l.length c),(3,pt ad),(5,.int .i64 sm),(6,.int .i64 i),(12,.int .i64 0)]) (λM2 w'=>BkAt M2 ao w' ad l (L++[⟨Cr,e.name,true⟩]++[⟨DZ,e.name,true⟩])/\(∀k,M2 k->M1 k\/w2.heap.size<=k)/\EXs (· < w.heap.size) w' l (some ⟨kb,ko,none⟩)/\Row w' ⟨kb,ko+i*12,none⟩ [str e.name,.int .i64 e.points,.int .i64 e.fuel,.int .i64 e.box.v,.int .i64 e.box.l,.int .i64 e.box.i,.slice bv e.g.vars.length bw,.slice bx e.g.procs.length bz,.int .u8 e.g.main.kind,.int .i64 e.g.main.num,str e.g.main.name,.slice b0 e.g.main.kids.length b1]/\Ext w w') ?_ ?_
     . focus
        refine Aq (λwz=>Fr (M1 ·) w2 wz) 13 (.pure 0 (.pure 1 (.pure 2 (.pure 3 (.pure 4 (.pure 5 (.pure 6 (.fork 7 (.pure 8 (.pure 9 (.pure 10 (.fork 11 (.fork 12 .tail .none) .none)))) (.fork 11 (.fork 7 (.pure 8 (.pure 9 (.pure 10 (.fork 12 .tail .none)))) .none) .none))))))))) mixed AU (Aa (Aa (Af (Aa (Aa (Af (Aa Ag))))))) ?_;intro d1 c4 _;have aa:(λwz=>Fr (M1 ·) w2 wz) d1:=mG c4;simp only at aa;have bm:=O;have ap:=G;have cn:=U;have co:=V;have bl:=N;have al:=Y;revert O G U V N Y X;refine eY c4 ?_;intro h8 O G U V N Y X;refine ⟨aa,?_⟩;refine eT ?_;refine Tq rfl (Ap Ac rfl rfl rfl (λwz hz=>mO (mT al hz (by first|omega|(dsimp only;omega))) rfl)) (Tq rfl (xL [_,_,_,_,_,_] (λwz hz=>(mH ap hz (λe=>by have:=am _ e;omega)))) ?_);refine AC rfl (AM AU rfl (HS.out _ Ae Ae Ae) (λ_ _ h=>h.ret)) rfl ?_ aFh ?krg5;rintro _ ft ⟨h9,ia,fu,fv,d2,d3,⟨⟩,a8,fw,d4,fx,fy,a9,ak⟩;have fz:=ak.size;have aa:=mL aa ak (λk hk=>iG hk);clear O;have G:=mH G ak (λe=>by have:=am _ e;omega);have U:=ny U ak (λb O hT=>by have:=am _ hT;(try dsimp only at O);omega);have V:=PDsC.fr V ak (λb O hT=>by have:=am _ hT;(try dsimp only at O);omega);have N:=EXs.fr N ak (λb O hT=>by have:=aw _ hT;(try dsimp only at O);omega);have Y:=mT Y ak (av);have X:=mQ X ak (λk hk=>aw k hk);refine ⟨aa,?_⟩;refine eT ?_;refine AC rfl (A2 CC rfl) rfl ?_ aFh Ay;rintro _ f0 ⟨f1,rfl,ba⟩;have ca:=ba.blk;dsimp only at ca;have c5:=ba.ext;have f2:=ba.pos;have f3:=ba.size;revert a8 a9 aa G U V N Y X;refine eE c5 ?_;intro a8 a9 aa G U V N Y X;refine ⟨aa,?_⟩;refine Cq [_,_,_,_,_,_] [_,_,_,_,_,_] rfl Ac rfl rfl rfl rfl rfl rfl ca rfl rfl ?_ Ay;intro f4 br;have f5:=br.blk;have bs:=br.fr;have f6:=br.size;have a8:=nt a8 bs Ab;have a9:=BkAt.fr a9 bs (λk hk e=>hk.elim (λg=>by have:=au k (iG g);(try dsimp only at e);omega) (λg=>((by assumption:∀k,_->M1 k\/_<=k/\k<_) k g).elim (λg2=>by have:=au k (iH g2);(try dsimp only at e);omega) (λg2=>by (try dsimp only at e);omega)));revert aa G U V N Y X;refine eF bs ?_;intro aa G U V N Y X;refine ⟨aa,?_⟩
        refine Ar rfl (C1 Pa (Ak ?_));rotate_left;refine AC rfl (A2 CC rfl) rfl ?_ aFh Ay;rintro _ f7 ⟨f8,rfl,bb⟩;have bc:=bb.blk;dsimp only at bc;have c6:=bb.ext;have f9:=bb.pos;have ga:=bb.size;revert aa O G U V N Y X;refine eE c6 ?_;intro aa O G U V N Y X;refine ⟨aa,?_⟩;refine tC rfl rfl (HS.out _ Ae Ae Ae) ?_;rintro _ gb ⟨gc,gd,d5,d6,d7,d8,⟨⟩,cb,gf,d9,gg,gh,cc,ah⟩;have gi:=ah.size;have bc:=mH bc ah (λe=>by have:=au _ (iH e);omega);have aa:=mL aa ah (λk hk=>iG hk);clear O;have G:=mH G ah (λe=>by have:=am _ e;omega);have U:=ny U ah (λb O hT=>by have:=am _ hT;(try dsimp only at O);omega);have V:=PDsC.fr V ah (λb O hT=>by have:=am _ hT;(try dsimp only at O);omega);have N:=EXs.fr N ah (λb O hT=>by have:=aw _ hT;(try dsimp only at O);omega);have Y:=mT Y ah (av);have X:=mQ X ah (λk hk=>aw k hk);refine ⟨aa,?_⟩;refine eT ?_;refine Cq [_,_,_,_,_,_] [_,_,_,_,_,_] rfl Ac rfl rfl rfl rfl rfl rfl bc rfl rfl ?_ Ay;intro gj bt;have gk:=bt.blk;have bu:=bt.fr;have gl:=bt.size;have cb:=nt cb bu Ab;have cc:=BkAt.fr cc bu (λk hk e=>hk.elim (λg=>by have:=au k (iG g);(try dsimp only at e);omega) (λg=>((by assumption:∀k,_->M1 k\/_<=k/\k<_) k g).elim (λg2=>by have:=au k (iH g2);(try dsimp only at e);omega) (λg2=>by (try dsimp only at e);omega)));revert aa G U V N Y X;refine eF bu ?_;intro aa G U V N Y X;refine ⟨aa,?_⟩;refine Ar rfl (C1 Pa (Ak ?_));rotate_left
       all_goals exact BQ _ sC ⟨by dsimp only at *;assumption,cA Ae Ab,Ae,Ae,Ae⟩
     clear HS O G U V N Y X av;rintro M2 w3 ⟨O,b2,N,Y,X⟩;have ea:∀k,M2 k->w.heap.size<=k:=λk hk=>(b2 k hk).elim (aw k) (λg=>by omega)
     refine eK ?_;refine C1 (Pw Y) (C1 V7 (C1 Pa (Ak (Ah (Ai (Al (C1 Mv (C1 V7 (C1 Pa (Ak ?_))))))))));rw [<-n2];exact AA (i+1,M2) sB ⟨bf,by dsimp only;rw [n7];exact O,ea,N,X⟩ (by simp only;omega)
 . obtain rfl:i=l.length:=by omega
   rw [kk (iW _)] at O;rw [kk (iW _)];have cp:0<l.length:=by omega
   have cj:=So (l.map (·.name));rw [kz] at cj;have cq:∀e∈l,1<=e.points/\e.points<=1000:=λe he=>(ay e he).1.2.1
   obtain ⟨e1,e2,e3⟩:=aT be cq cp;have dp:=YG l hp;have ib:=cq _ (iS cp);obtain ⟨kb,ko,rfl,cl,hk⟩:=m5 N Ab;obtain ⟨bv,bw,bx,bz,b0,b1,Y,-⟩:=hk 0 l[0] (iE cp);have HP:=iF (λw1 h=>Id M ao ad l Ab hp (D9 (l.map (·.name))) Cr w1 h);have HQ:=iF (λw1 h=>Id M ao ad l Ab hp (D9 (l.map (·.name))) DZ w1 h);have HR:=iF (λw1 h=>OZ M ao ad l Ab hp (D9 (l.map (·.name))) Ab w1 h);rw [e1] at HP;rw [e2] at HQ;rw [e3] at HR;generalize l[0]=e at *;generalize (l.map (·.points)).sum=sm at *;have cd:jP .i64 (sm-e.points)=sm-e.points:=iO _ Ab;clear hk hp cq be e1 e2 e3 ay hw ax hM hX;unfold EX.cells at *;by_cases h1:l.length=1
   . rw [AG h1] at HR;have h2:¬(1:Int)<(l.length:Int):=by omega
     have HS:=iF (λS S' a a' c c' w1 h1 h2=>K9 [Cr] [Cr] B9 S S' a a' c c' w1 h1 h2);rw [decide_eq_true rfl] at HS;refine eK ?_;refine Aw (xS [_]) rfl ?_ aFh;rintro _ c7 ⟨ic,rfl,b3,ie⟩;have an:=b3.blk;have eb:=b3.ext;have ig:=b3.pos;have ih:=b3.size;revert X O N Y;refine eE eb ?_;intro X O N Y;refine eK ?_;refine Aq (λwz=>Ext c7 wz) 19 (.pure 0 (.pure 2 (.fork 1 (.pure 3 (.pure 4 (.pure 5 (.pure 7 (.pure 8 (.pure 9 (.pure 10 (.pure 11 (.pure 12 (.fork 6 (.pure 13 (.pure 14 (.pure 15 (.pure 16 (.pure 18 (.fork 17 .tail .none)))))) .none)))))))))) .none))) mixed AU (Aa Ag) ?_;intro ec ce _;have ab:(λwz=>Ext c7 wz) ec:=ce;simp only at ab;have ed:=an;have bm:=O;have bl:=N;have al:=Y;revert an X O N Y;refine eY ce ?_;intro gm an X O N Y;refine ⟨ab,?_⟩;refine Tq rfl Mv (Tq rfl Mv ?_);refine tC rfl rfl (HP.out _ Ae) ?_;rintro _ gn ⟨⟨⟩,c8⟩;revert ab an X O N Y;refine eY c8 ?_;intro go ab an X O N Y;refine ⟨ab,?_⟩;refine Tq rfl V1 (Tq rfl Mv (eN rfl (Av rfl) (eN rfl (Av rfl) (eN rfl (Av rfl) (eN rfl (AK Ac rfl rfl rfl rfl Ab Ab) (eN rfl (AX Ac rfl rfl rfl) (eN rfl (Ap Ac rfl rfl rfl (λwz hz=>nJ (mJ al hz) rfl)) (eN rfl (AL rfl rfl cd) ?_))))))));refine FB rfl rfl rfl rfl (Hn Ab) (AM AU rfl (HQ.out _ Ae) (λ_ _ h=>⟨_,h.1⟩)) rfl ?_ aFh Ay;rintro _ gp ⟨⟨⟩,da⟩;revert ab an X O N Y;refine eY da ?_;intro gq ab an X O N Y;refine ⟨ab,?_⟩;refine eT ?_;refine FB rfl rfl rfl rfl (Hn Ab) (AM AU rfl (HR.out _ Ae) (λ_ _ h=>h.ret)) rfl ?_ aFh Ay;rintro _ gr ⟨gs,gt,⟨⟩,cf,db⟩;revert ab an X O N Y;refine eY db ?_;intro gu ab an X O N Y;refine ⟨ab,?_⟩;refine Ar rfl (bD (cC rfl (HS.out _ _ _ _ _ _ _ (NamAt.rows Ae) (YJ Ae)) ?_));rintro _ gv ⟨⟨⟩,dc⟩;revert cf an X O N Y;refine eY dc ?_;intro gw cf an X O N Y;refine kR ?_
     all_goals exact ⟨rfl,X⟩
   . rw [At h1] at HR;have h2:(1:Int)<(l.length:Int):=by omega
     have HS:=iF (λS S' a a' c c' w1 h1 h2=>K9 [Cr,DZ] [Cr,DZ] B9 S S' a a' c c' w1 h1 h2);rw [decide_eq_true rfl] at HS;refine eK ?_;refine Aw (xS [_]) rfl ?_ aFh;rintro _ ii ⟨ij,rfl,b4,ik⟩;have aj:=b4.blk;have ee:=b4.ext;have il:=b4.pos;have im:=b4.size;revert X O N Y;refine eE ee ?_;intro X O N Y;refine eK ?_;refine Aw (xS [_,_]) rfl ?_ aFh;rintro _ cg ⟨io,rfl,bd,gx⟩;have ae:=bd.blk;have dd:=bd.ext;have gy:=bd.pos;have gz:=bd.size;revert aj X O N Y;refine eE dd ?_;intro aj X O N Y;refine eK ?_;refine Aq (λwz=>Ext cg wz) 19 (.pure 0 (.pure 2 (.fork 1 (.pure 3 (.pure 4 (.pure 5 (.pure 7 (.pure 8 (.pure 9 (.pure 10 (.pure 11 (.pure 12 (.fork 6 (.pure 13 (.pure 14 (.pure 15 (.pure 16 (.pure 18 (.fork 17 .tail .none)))))) .none)))))))))) .none))) mixed AU (Aa Ag) ?_;intro de ch _;have ac:(λwz=>Ext cg wz) de:=ch;simp only at ac;have dk:=ae;have ef:=aj;have bm:=O;have bl:=N;have al:=Y;revert ae aj X O N Y;refine eY ch ?_;intro g0 ae aj X O N Y;refine ⟨ac,?_⟩;refine Tq rfl Mv (Tq rfl Mv ?_);refine tC rfl rfl (HP.out _ Ae) ?_;rintro _ g1 ⟨⟨⟩,df⟩;revert ac ae aj X O N Y;refine eY df ?_;intro g3 ac ae aj X O N Y;refine ⟨ac,?_⟩;refine Tq rfl V1 (Tq rfl Mv (eN rfl (Av rfl) (eN rfl (Av rfl) (eN rfl (Av rfl) (eN rfl (AK Ac rfl rfl rfl rfl Ab Ab) (eN rfl (AX Ac rfl rfl rfl) (eN rfl (Ap Ac rfl rfl rfl (λwz hz=>nJ (mJ al hz) rfl)) (eN rfl (AL rfl rfl cd) ?_))))))));refine FB rfl rfl rfl rfl (Hn Ab) (AM AU rfl (HQ.out _ Ae) (λ_ _ h=>⟨_,h.1⟩)) rfl ?_ aFh Ay;rintro _ g4 ⟨⟨⟩,dg⟩;revert ac ae aj X O N Y;refine eY dg ?_;intro g5 ac ae aj X O N Y;refine ⟨ac,?_⟩;refine eT ?_;refine FB rfl rfl rfl rfl (Hn Ab) (AM AU rfl (HR.out _ Ae) (λ_ _ h=>h.ret)) rfl ?_ aFh Ay;rintro _ g6 ⟨g7,g8,⟨⟩,ci,dh⟩;revert ac ae aj X O N Y;refine eY dh ?_;intro g9 ac ae aj X O N Y;refine ⟨ac,?_⟩;refine Ar rfl (bD (cC rfl (HS.out _ _ _ _ _ _ _ (NamAt.rows Ae) (Sh Ae)) ?_))
     rintro _ ha ⟨⟨⟩,di⟩;revert ci ae aj X O N Y;refine eY di ?_;intro hc ci ae aj X O N Y;refine kR ?_;all_goals exact ⟨rfl,X⟩
def GH:nP:=λ_=>True
def O1 (W:wD) (b o:Nat):∀(len G:Nat),(∀i,i<len -> ∃(t:Nd) (M:oA) (N:Nat),t.wf/\W.cell? ⟨b,o+(G+i)*4,none⟩=some (.int .u8 t.kind)/\W.cell? ⟨b,o+(G+i)*4+1,none⟩=some (.int .i64 t.num)/\W.cell? ⟨b,o+(G+i)*4+2,none⟩=some (str t.name)/\W.cell? ⟨b,o+(G+i)*4+3,none⟩=some (.slice M t.kids.length N)/\t.sits GH W M) ->
 ∃l:List Nd,l.length=len/\C0 l/\rowSits GH W l (some ⟨b,o+G*4,none⟩)
 | 0,_,_=>⟨[],rfl,by simp [C0],by simp [rowSits]⟩
 | len+1,G,h=>by
  obtain ⟨l,hl,hw,hs⟩:=O1 W b o len (G+1) (λi hi=>by
   have:=h (i+1) Ab;rwa [show G+(i+1)=G+1+i from by omega] at this)
  obtain ⟨t,M,N,O,V,X,Y,Z,U⟩:=h 0 Ab;rw [kK] at V X Y Z;refine ⟨t::l,by simp [hl],by simp [C0,O,hw],?_⟩;simp only [rowSits];refine ⟨b,o+G*4,M,N,rfl,trivial,V,X,Y,Z,U,?_⟩;rwa [show o+G*4+4=o+(G+1)*4 from by omega]
def eG {W:wD} {a:Addr} (h:W.cells? 0 a 4=some cs):∃G M N O,cs=[G,M,N,O]/\W.cell? (a.add 0)=some G/\W.cell? (a.add 1)=some M/\W.cell? (a.add 2)=some N/\W.cell? (a.add 3)=some O:=by
 unfold World.cells? at h;rw [AG (iT _)] at h;rw [show jQ 4=[0,1,2,3] from rfl] at h;cases e0:W.cell? (a.add 0)<;>simp [e0] at h
 cases e1:W.cell? (a.add 1)<;>simp [e1] at h
 cases e2:W.cell? (a.add 2)<;>simp [e2] at h
 cases e3:W.cell? (a.add 3)<;>simp [e3] at h
 exact ⟨_,_,_,_,h.symm,rfl,rfl,rfl,rfl⟩
def Wr (b o n m:Nat):((⟨b,o,none⟩:Addr).add n).add m=⟨b,o+n+m,none⟩:=by
 unfold ki;by_cases h:n=0<;>by_cases G:m=0<;>simp [h,G]
def IK:prog.cellsOf 29=4:=by kernel_rfl
def YK:prog.cellsOf 5=1:=by kernel_rfl
def Qa:prog.cellsOf 3=1:=by kernel_rfl
def Qb:prog.cellsOf 9=1:=by kernel_rfl
def aV:prog.cellsOf 27=1:=by kernel_rfl
abbrev La {H:Type} (enc:TypeId×Value->H) (W:wD) (sp:Nat->Bool) (n t:Nat) (l:lV) (i:Nat) (x:DataW H×List MemPlace):Prop:=DataW.trod enc prog W 0 sp true n t ((l.drop i).take (prog.cellsOf t))=some x
def Kz (enc:TypeId×Value->H) (W:wD) (sp:Nat->Bool) (N:Nat):∀(M:Nat),M<N -> ∀(cs:lV) (x:DataW H×List MemPlace),DataW.trod enc prog W 0 sp true M 29 cs=some x ->
 ∃(t:Nd) (a:oA) (c:Nat),cs=[.int .u8 t.kind,.int .i64 t.num,str t.name,.slice a t.kids.length c]/\t.wf/\t.sits GH W a:=by
 induction N with
 | zero=>intro M h;omega
 | succ N ih=>
  intro M hN cs x h;obtain ⟨xs,n,rfl,-,hl,ad,hf⟩:=lu underlying29 h;rw [IK] at hl;obtain ⟨Z,c1,c2,c3,rfl⟩:∃Z c1 c2 c3,cs=[Z,c1,c2,c3]:=by
   rcases cs with _|⟨Z,_|⟨c1,_|⟨c2,_|⟨c3,_|⟨c4,cs⟩⟩⟩⟩⟩
   . simp at hl
   . simp at hl
   . simp at hl
   . simp at hl
   . exact ⟨_,_,_,_,rfl⟩
   . simp at hl
  obtain ⟨y0,y1,y2,y3,rfl⟩:∃y0 y1 y2 y3,xs=[y0,y1,y2,y3]:=by
   have G:xs.length=4:=ad;rcases xs with _|⟨Z,_|⟨c1,_|⟨c2,_|⟨c3,_|⟨c4,cs⟩⟩⟩⟩⟩
   . simp at G
   . simp at G
   . simp at G
   . simp at G
   . exact ⟨_,_,_,_,rfl⟩
   . simp at G
  . have f0:La enc W sp n 5 [Z,c1,c2,c3] 0 y0:=hf 0 _ rfl;have f1:La enc W sp n 3 [Z,c1,c2,c3] 1 y1:=hf 1 _ rfl;have f2:La enc W sp n 9 [Z,c1,c2,c3] 2 y2:=hf 2 _ rfl;have f3:La enc W sp n 27 [Z,c1,c2,c3] 3 y3:=hf 3 _ rfl;simp only [YK,Qa,Qb,aV,La,ku,kP,jH,kZ] at f0 f1 f2 f3;obtain ⟨k,hk,-,wk⟩:=lX (show prog.underlying 5=some (.int .u8) by kernel_rfl) f0;obtain ⟨m,hm,-,wm⟩:=lX underlying3 f1;obtain ⟨s,hs,-,ws⟩:=l6 (show prog.underlying 9=some .string by kernel_rfl) f2;simp only [jw,and_true] at hk hm hs;subst hk hm hs;have O:0<=k/\k<=255:=by simpa [Lit.wf,IntKind.min,IntKind.max,IntKind.signed,IntKind.bits] using wk
    have U : -9223372036854775808<=m/\m<=9223372036854775807:=by simpa [Lit.wf,IntKind.min,IntKind.max,IntKind.signed,IntKind.bits] using wm
    have ab:s.data.toList.length<=9223372036854775807:=by
     have:s.data.toList.length=s.size:=by rw [kd];rfl
     unfold maxLen at ws;omega
    rcases mB underlying27 f3 with ⟨hc,-⟩|⟨a,len,cap,V,rest,n',ak,hc,-,-,al,ag,am,hE,-⟩
    . simp only [jw,and_true] at hc;subst hc;exact ⟨.mk k m s.data.toList [],none,0,rfl,⟨O.1,O.2,U.1,U.2,ab,AN,by simp [C0]⟩,by simp [nm,rowSits]⟩
    . simp only [jw,and_true] at hc;subst hc;rw [IK] at hE;rcases mr len with h0|ae
      . subst h0;exact ⟨.mk k m s.data.toList [],some a,cap,rfl,⟨O.1,O.2,U.1,U.2,ab,AN,by simp [C0]⟩,by simp [nm,rowSits]⟩
      . have step:∀i,i<len -> ∃(t:Nd) (a':oA) (c':Nat),t.wf/\W.cell? ((a.add (i*4)).add 0)=some (.int .u8 t.kind)/\W.cell? ((a.add (i*4)).add 1)=some (.int .i64 t.num)/\W.cell? ((a.add (i*4)).add 2)=some (str t.name)/\W.cell? ((a.add (i*4)).add 3)=some (.slice a' t.kids.length c')/\t.sits GH W a':=by
         intro i hi;have X:=hE i hi;cases hc4:W.cells? 0 (a.add (i*4)) 4 with
         | none=>
          rw [hc4] at X;have hh:V[i]? = some V[i]:=iE Ab;rw [hh] at X;simp at X
         | some an=>
          rw [hc4,iE Ab] at X;obtain ⟨d0,d1,d2,d3,rfl,Y,e1,e2,e3⟩:=eG hc4;obtain ⟨t,a',c',af,hw,hs⟩:=ih n' Ab _ _ X;simp only [jw,and_true] at af;obtain ⟨rfl,rfl,rfl,rfl⟩:=af;exact ⟨t,a',c',hw,Y,e1,e2,e3,hs⟩
        obtain ⟨b,o,aa⟩:=a;have ac:aa=none:=by
         obtain ⟨t,a',c',-,Y,-⟩:=step 0 ae;simp only [lQ,ki,if_true] at Y;unfold World.cell? at Y;cases aa with
         | none=>rfl
         | some q=>simp at Y;split at Y<;>simp at Y
        subst ac;obtain ⟨l,ah,ai,aj⟩:=O1 W b o len 0 (λi hi=>by
         obtain ⟨t,a',c',hw,Y,e1,e2,e3,hs⟩:=step i hi;rw [Wr] at Y e1 e2 e3;rw [jC];exact ⟨t,a',c',hw,Y,e1,e2,e3,hs⟩)
        subst ah;refine ⟨.mk k m s.data.toList l,some ⟨b,o,none⟩,cap,rfl,⟨O.1,O.2,U.1,U.2,ab,by unfold maxLen at ag;omega,ai⟩,?_⟩;simpa [nm] using aj
def Ws {W:wD} {p:Addr} {k:Nat} (h:W.cells? 0 p k=some cs):Row W p cs/\cs.length=k:=by
 unfold World.cells? at h;rw [AG (iT _)] at h;refine ⟨λi v G=>?_,by simpa using mapM_some_length h⟩;have O:cs.length=k:=by simpa using mapM_some_length h
 have M:i<k:=by
  rcases i7 i cs.length with N|N
  . omega
  . rw [iR N] at G;cases G
 have:=mapM_some_get h i i (by simp [M]);rw [G] at this;exact this
def YL (b o i:Nat):(⟨b,o,none⟩:Addr).add i=⟨b,o+i,none⟩:=by unfold ki;by_cases h:i=0<;>simp [h]
def LM {α:Type} (enc:TypeId×Value->H) (W:wD) (sp:Nat->Bool) {t e k:Nat} (ht:prog.underlying t=some (.slice e)) (hk:prog.cellsOf e=k) (ac:0<k) (G:lV->α->Prop) {N:Nat} (hG:∀(n:Nat) (cs:lV) (x:DataW H×List MemPlace),n<N->DataW.trod enc prog W 0 sp true n e cs=some x -> ∃y,G cs y) {x:DataW H×List MemPlace} (h:DataW.trod enc prog W 0 sp true N t [c]=some x) :
 ∃(l:List α) (a:oA) (cap:Nat),c = .slice a l.length cap/\l.length<=9223372036854775807/\Arr GH k (λw b o y=> ∃cs,Row w ⟨b,o,none⟩ cs/\G cs y) W l a:=by
 rcases mB ht h with ⟨V,-⟩|⟨a,len,cap,aa,rest,n',ad,V,-,-,ae,ab,af,hE,-⟩
 . simp only [jw,and_true] at V;exact ⟨[],none,0,V,AN,iG rfl⟩
 . simp only [jw,and_true] at V;rw [hk] at hE;unfold maxLen at ab;rcases mr len with h0|X
   . subst h0;exact ⟨[],some a,cap,V,AN,iG rfl⟩
   . have step:∀i,i<len -> ∃y cs,Row W (a.add (i*k)) cs/\cs.length=k/\G cs y:=λi hi=>by
      have M:=hE i hi;cases hc4:W.cells? 0 (a.add (i*k)) k with
      | none=>
       rw [hc4,iE Ab] at M;simp at M
      | some cs=>
       rw [hc4,iE Ab] at M;obtain ⟨r1,r2⟩:=Ws hc4;obtain ⟨y,hy⟩:=hG n' cs _ Ab M;exact ⟨y,cs,r1,r2,hy⟩
     obtain ⟨b,o,Y⟩:=a;have O:Y=none:=by
      obtain ⟨y,cs,r,hl,-⟩:=step 0 X;simp only [lQ,ki,if_true] at r;cases cs with
      | nil=>simp at hl;omega
      | cons v vs=>
       have:=r 0 v rfl;simp only [ki,if_true] at this;exact UF this
     subst O;have hl:∃l:List α,l.length=len /\ ∀i y,l[i]? = some y -> ∃cs,Row W ⟨b,o+i*k,none⟩ cs/\G cs y:=by
      have key:∀m,m<=len -> ∃l:List α,l.length=m /\ ∀i y,l[i]? = some y -> ∃cs,Row W ⟨b,o+i*k,none⟩ cs/\G cs y:=by
       intro m
       induction m with
       | zero=>intro _;exact ⟨[],rfl,AN⟩
       | succ m ih=>
        intro hm;obtain ⟨l,Z,h2⟩:=ih Ab;obtain ⟨y,cs,r,-,hg⟩:=step m Ab;rw [YL] at r;refine ⟨l++[y],by simp [Z],λi z U=>?_⟩;rcases i7 i m with hi|hi
        . rw [iN Ab] at U;exact h2 i z U
        . rw [iY Ab] at U;obtain rfl:i=m:=by
           rcases i7 m i with h'|h'
           . rw [iR (by simp;omega)] at U;cases U
           . omega
          simp [Z] at U;subst U;exact ⟨cs,r,hg⟩
      exact key len (iW _)
     obtain ⟨l,Z,h2⟩:=hl;subst Z;exact ⟨l,some ⟨b,o,none⟩,cap,V,Ab,iH ⟨b,o,rfl,trivial,h2⟩⟩
def gA (h:cs.length=3):∃a b c,cs=[a,b,c]:=by
 rcases cs with _|⟨a,_|⟨b,_|⟨c,_|⟨d,r⟩⟩⟩⟩<;>simp at h;exact ⟨a,b,c,rfl⟩
def aW (h:cs.length=6):∃a b c d e f,cs=[a,b,c,d,e,f]:=by
 rcases cs with _|⟨a,_|⟨b,_|⟨c,_|⟨d,_|⟨e,_|⟨f,_|⟨g,r⟩⟩⟩⟩⟩⟩⟩<;>simp at h;exact ⟨a,b,c,d,e,f,rfl⟩
def BO {α:Type} {xs:List α} {n i:Nat} (h:xs.length=n) (G:i<n):∃y,xs[i]? = some y:=⟨xs[i],iE Ab⟩
def gZ:prog.cellsOf 77=3:=by kernel_rfl
def gB:prog.cellsOf 25=1:=by kernel_rfl
def ip:prog.cellsOf 116=6:=by kernel_rfl
def gW:prog.cellsOf 26=1:=by kernel_rfl
def iq:prog.cellsOf 31=6:=by kernel_rfl
section
variable (enc:TypeId×Value->H) (W:wD) (sp:Nat->Bool)
def TM {x:DataW H×List MemPlace} (h:DataW.trod enc prog W 0 sp true M 77 cs=some x):∃v:VD,cs=v.cells/\v.wf:=by
 obtain ⟨xs,n,rfl,-,hl,G,U⟩:=lu underlying77 h;rw [gZ] at hl;obtain ⟨V,X,Y,rfl⟩:=gA hl;obtain ⟨y0,e0⟩:=BO (i:=0) G B9;obtain ⟨y1,e1⟩:=BO (i:=1) G B9;obtain ⟨y2,e2⟩:=BO (i:=2) G B9;have f0:La enc W sp n 9 [V,X,Y] 0 y0:=(U 0 _ rfl).trans e0;have f1:La enc W sp n 5 [V,X,Y] 1 y1:=(U 1 _ rfl).trans e1;have f2:La enc W sp n 3 [V,X,Y] 2 y2:=(U 2 _ rfl).trans e2;simp only [YK,Qa,Qb,La,ku,kP,jH,kZ] at f0 f1 f2;obtain ⟨s,hs,-,ws⟩:=l6 Fb f0;obtain ⟨k,hk,-,wk⟩:=lX (show prog.underlying 5=some (.int .u8) by kernel_rfl) f1;obtain ⟨m,hm,-,wm⟩:=lX underlying3 f2;simp only [jw,and_true] at hk hm hs;subst hk hm hs;have N:0<=k/\k<=255:=by simpa [Lit.wf,IntKind.min,IntKind.max,IntKind.signed,IntKind.bits] using wk
 have O : -9223372036854775808<=m/\m<=9223372036854775807:=by simpa [Lit.wf,IntKind.min,IntKind.max,IntKind.signed,IntKind.bits] using wm
 have Z:s.data.toList.length<=9223372036854775807:=by
  have:s.data.toList.length=s.size:=by rw [kd];rfl
  unfold maxLen at ws;omega
 exact ⟨⟨s.data.toList,k,m⟩,rfl,Z,N.1,N.2,O.1,O.2⟩
end
def KA {α:Type} (enc:TypeId×Value->H) (W:wD) (sp:Nat->Bool) {t e k:Nat} (X:prog.underlying t=some (.slice e)) (Z:prog.cellsOf e=k) (O:0<k) (G:lV->α->Prop) (hG:∀(n:Nat) (cs:lV) (x:DataW H×List MemPlace),n<M->DataW.trod enc prog W 0 sp true n e cs=some x -> ∃y,G cs y) {x:DataW H×List MemPlace} (h:DataW.trod enc prog W 0 sp true M t [c]=some x) :
 ∃(l:List α) (a:oA) (cap:Nat),c = .slice a l.length cap/\l.length<=9223372036854775807/\Arr GH k (λw b o y=> ∃cs,Row w ⟨b,o,none⟩ cs/\G cs y) W l a/\l.length<=cap:=by
 obtain ⟨l,a,cap,U,h2,h3⟩:=LM enc W sp X Z O G hG h;refine ⟨l,a,cap,U,h2,h3,?_⟩;rcases mB X h with ⟨N,-⟩|⟨a',len,Y,V,rest,n',aa,N,-,-,ab,-⟩
 . simp only [jw,and_true] at N;rw [U] at N;simp only [jm] at N;omega
 . simp only [jw,and_true] at N;rw [U] at N;simp only [jm] at N;omega
section
variable (enc:TypeId×Value->H) (W:wD) (sp:Nat->Bool)
def KB {x:DataW H×List MemPlace} (h:DataW.trod enc prog W 0 sp true M 25 [c]=some x) :
 ∃(l:List VD) (a:oA) (cap:Nat),c = .slice a l.length cap/\l.length<=9223372036854775807/\(∀v∈l,v.wf)/\VDs GH W l a/\l.length<=cap:=by
 obtain ⟨l,a,cap,O,U,G,V⟩:=KA (α:=VD) enc W sp underlying25 gZ B9 (λcs v=>cs=v.cells/\v.wf) (λn cs x _ X=>TM enc W sp X) h;refine ⟨l,a,cap,O,U,λv N=>?_,G.mono aFh (λb o v _ _ ⟨cs,r,e,_⟩=>by subst e;exact r),V⟩;rcases G with rfl|⟨b,o,-,-,Y⟩
 . cases N
 . obtain ⟨i,Z,rfl⟩:=List.mem_iff_getElem.1 N;obtain ⟨cs,-,-,hw⟩:=Y i _ (iE Z);exact hw
def Sq {x:DataW H×List MemPlace} (h:DataW.trod enc prog W 0 sp true M 116 cs=some x):∃p:PD,(∃U V X Y,cs=p.cells U V X Y/\VDs GH W p.params U/\p.body.sits GH W X/\p.params.length<=V)/\p.wf:=by
 obtain ⟨xs,n,rfl,-,hl,G,Z⟩:=lu underlying116 h;rw [ip] at hl;obtain ⟨c0,c1,c2,c3,c4,c5,rfl⟩:=aW hl;obtain ⟨y0,e0⟩:=BO (i:=0) G B9;obtain ⟨y1,e1⟩:=BO (i:=1) G B9;obtain ⟨y2,e2⟩:=BO (i:=2) G B9;have f0:La enc W sp n 9 [c0,c1,c2,c3,c4,c5] 0 y0:=(Z 0 _ rfl).trans e0;have f1:La enc W sp n 25 [c0,c1,c2,c3,c4,c5] 1 y1:=(Z 1 _ rfl).trans e1;have f2:La enc W sp n 29 [c0,c1,c2,c3,c4,c5] 2 y2:=(Z 2 _ rfl).trans e2;simp only [gB,Qb,IK,La,ku,kP,jH,kZ] at f0 f1 f2;obtain ⟨s,hs,-,ws⟩:=l6 Fb f0;obtain ⟨l,U,V,hc,aa,ab,ac,ad⟩:=KB enc W sp f1;obtain ⟨t,X,Y,N,hw,O⟩:=Kz enc W sp (n+1) n Ab _ _ f2;simp only [jw,and_true] at hs N;obtain ⟨rfl,rfl,rfl,rfl⟩:=N;subst hs hc;have ae:s.data.toList.length<=9223372036854775807:=by
  have:s.data.toList.length=s.size:=by rw [kd];rfl
  unfold maxLen at ws;omega
 exact ⟨⟨s.data.toList,l,t⟩,⟨U,V,X,Y,rfl,ac,O,ad⟩,ae,aa,ab,hw⟩
def Sr {x:DataW H×List MemPlace} (h:DataW.trod enc prog W 0 sp true M 31 cs=some x):∃(g:PG) (va:oA) (vc:Nat) (G:oA) (N:Nat) (ma:oA) (mc:Nat),cs=g.cells va vc G N ma mc/\g.wf/\g.sits GH W va G ma/\PDsC GH W g.procs G/\g.vars.length<=vc:=by
 obtain ⟨xs,n,rfl,-,hl,U,hf⟩:=lu underlying31 h;rw [iq] at hl;obtain ⟨c0,c1,c2,c3,c4,c5,rfl⟩:=aW hl;obtain ⟨y0,e0⟩:=BO (i:=0) U B9;obtain ⟨y1,e1⟩:=BO (i:=1) U B9;obtain ⟨y2,e2⟩:=BO (i:=2) U B9;have f0:La enc W sp n 25 [c0,c1,c2,c3,c4,c5] 0 y0:=(hf 0 _ rfl).trans e0;have f1:La enc W sp n 26 [c0,c1,c2,c3,c4,c5] 1 y1:=(hf 1 _ rfl).trans e1;have f2:La enc W sp n 29 [c0,c1,c2,c3,c4,c5] 2 y2:=(hf 2 _ rfl).trans e2;simp only [gB,gW,IK,La,ku,kP,jH,kZ] at f0 f1 f2;obtain ⟨l,va,vc,hc,ab,ac,ad,ae⟩:=KB enc W sp f0;obtain ⟨ps,G,N,hp,af,V⟩:=LM (α:=PD) enc W sp underlying26 ip B9 (λcs p=>(∃G N O X,cs=p.cells G N O X/\VDs GH W p.params G/\p.body.sits GH W O/\p.params.length<=N)/\p.wf) (λn cs x _ hx=>Sq enc W sp hx) f1;obtain ⟨t,O,X,Y,hw,Z⟩:=Kz enc W sp (n+1) n Ab _ _ f2;simp only [jw,and_true] at Y;obtain ⟨rfl,rfl,rfl,rfl⟩:=Y;subst hc hp;have aa:PDsC GH W ps G:=V.mono aFh (λb o p _ _ ⟨cs,r,⟨G,N,O,X,e,h1,h2,h3⟩,_⟩=>by
  subst e;exact ⟨G,N,O,X,r,h1,h2,h3⟩)
 refine ⟨⟨l,ps,t⟩,va,vc,G,N,O,X,rfl,⟨ab,af,ac,λp hp=>?_,hw⟩,⟨ad,aa.pds,Z⟩,aa,ae⟩;rcases V with rfl|⟨b,o,-,-,hh⟩
 . cases hp
 . obtain ⟨i,hi,rfl⟩:=List.mem_iff_getElem.1 hp;obtain ⟨cs,-,-,hw⟩:=hh i _ (iE hi);exact hw
end
section
variable (enc:TypeId×Value->H) (W:wD) (sp:Nat->Bool)
def UB:prog.cellsOf 34=3:=by kernel_rfl
def YM:prog.cellsOf 36=12:=by kernel_rfl
def eH (h:cs.length=12):∃a b c d e f G M N O U f',cs=[a,b,c,d,e,f,G,M,N,O,U,f']:=by
 obtain ⟨a,b,c,d,e,f,V⟩:=aW (cs:=cs.take 6) (by rw [jp];omega);obtain ⟨G,M,N,O,U,f',X⟩:=aW (cs:=cs.drop 6) (by rw [kV];omega);refine ⟨a,b,c,d,e,f,G,M,N,O,U,f',?_⟩;rw [<-jA 6 cs,V,X];rfl
def Ez {x:DataW H×List MemPlace} (h:DataW.trod enc prog W 0 sp true M 3 [c]=some x):∃m:Int,c = .int .i64 m /\ -9223372036854775808<=m/\m<=9223372036854775807:=by
 obtain ⟨m,G,-,N⟩:=lX underlying3 h;simp only [jw,and_true] at G;exact ⟨m,G,by simpa [Lit.wf,IntKind.min,IntKind.max,IntKind.signed,IntKind.bits] using N⟩
def Qc {x:DataW H×List MemPlace} (h:DataW.trod enc prog W 0 sp true M 34 cs=some x) :
 ∃b:BoxV,cs=[.int .i64 b.v,.int .i64 b.l,.int .i64 b.i]/\(-9223372036854775808<=b.v/\b.v<=9223372036854775807)/\(-9223372036854775808<=b.l/\b.l<=9223372036854775807) /\ -9223372036854775808<=b.i/\b.i<=9223372036854775807:=by
 obtain ⟨xs,n,rfl,-,Y,G,N⟩:=lu underlying34 h;rw [UB] at Y;obtain ⟨O,U,V,rfl⟩:=gA Y;obtain ⟨y0,e0⟩:=BO (i:=0) G B9;obtain ⟨y1,e1⟩:=BO (i:=1) G B9;obtain ⟨y2,e2⟩:=BO (i:=2) G B9;have Z:La enc W sp n 3 [O,U,V] 0 y0:=(N 0 _ rfl).trans e0;have f1:La enc W sp n 3 [O,U,V] 1 y1:=(N 1 _ rfl).trans e1;have f2:La enc W sp n 3 [O,U,V] 2 y2:=(N 2 _ rfl).trans e2;simp only [Qa,La,ku,kP,jH,kZ] at Z f1 f2;obtain ⟨v,rfl,hv⟩:=Ez enc W sp Z;obtain ⟨l,rfl,X⟩:=Ez enc W sp f1;obtain ⟨i,rfl,hi⟩:=Ez enc W sp f2;exact ⟨⟨v,l,i⟩,rfl,hv,X,hi⟩
def Qd {x:DataW H×List MemPlace} (h:DataW.trod enc prog W 0 sp true M 36 cs=some x) :
 ∃(e:EX) (va:oA) (vc:Nat) (pa:oA) (pc:Nat) (ma:oA) (mc:Nat),cs=e.cells va vc pa pc ma mc/\(e.name.length<=9223372036854775807/\e.g.wf)/\e.sits GH W va pa ma vc:=by
 obtain ⟨xs,n,rfl,-,hl,G,N⟩:=lu underlying36 h;rw [YM] at hl;obtain ⟨O,U,V,X,Y,Z,c6,c7,c8,c9,ca,cb,rfl⟩:=eH hl;obtain ⟨y0,e0⟩:=BO (i:=0) G B9;obtain ⟨y1,e1⟩:=BO (i:=1) G B9;obtain ⟨y2,e2⟩:=BO (i:=2) G B9;obtain ⟨y3,e3⟩:=BO (i:=3) G B9;obtain ⟨y4,e4⟩:=BO (i:=4) G B9;have f0:La enc W sp n 9 [O,U,V,X,Y,Z,c6,c7,c8,c9,ca,cb] 0 y0:=(N 0 _ rfl).trans e0;have f1:La enc W sp n 3 [O,U,V,X,Y,Z,c6,c7,c8,c9,ca,cb] 1 y1:=(N 1 _ rfl).trans e1;have f2:La enc W sp n 3 [O,U,V,X,Y,Z,c6,c7,c8,c9,ca,cb] 2 y2:=(N 2 _ rfl).trans e2;have f3:La enc W sp n 34 [O,U,V,X,Y,Z,c6,c7,c8,c9,ca,cb] 3 y3:=(N 3 _ rfl).trans e3;have f4:La enc W sp n 31 [O,U,V,X,Y,Z,c6,c7,c8,c9,ca,cb] 6 y4:=(N 4 _ rfl).trans e4;simp only [Qa,Qb,UB,iq,La,ku,kP,jH,kZ] at f0 f1 f2 f3 f4;obtain ⟨s,hs,-,ws⟩:=l6 Fb f0;obtain ⟨po,rfl,hp⟩:=Ez enc W sp f1;obtain ⟨fu,rfl,hu⟩:=Ez enc W sp f2;obtain ⟨b,hb,af,ag,ah⟩:=Qc enc W sp f3;obtain ⟨g,va,vc,pa,pc,ma,mc,hg,ab,aa,ac,ad⟩:=Sr enc W sp f4;simp only [jw,and_true] at hs hb;obtain ⟨rfl,rfl,rfl⟩:=hb;subst hs;unfold PG.cells at hg
 simp only [jw,and_true] at hg;obtain ⟨rfl,rfl,rfl,rfl,rfl,rfl⟩:=hg;have ae:s.data.toList.length<=9223372036854775807:=by
  have:s.data.toList.length=s.size:=by rw [kd];rfl
  unfold maxLen at ws;omega
 exact ⟨⟨s.data.toList,po,fu,b,g⟩,va,vc,pa,pc,ma,mc,rfl,⟨ae,ab⟩,aa,ac,ad⟩
end
def NS (enc:TypeId×Value->H) (W:wD) (sp:Nat->Bool) {x:DataW H×List MemPlace} (h:DataW.trod enc prog W 0 sp true M 23 [c]=some x) :
 ∃(l:List EX) (a:oA) (cap:Nat),c = .slice a l.length cap/\l.length<=9223372036854775807/\l.length<=cap/\(∀e∈l,e.name.length<=9223372036854775807/\e.g.wf)/\EXs GH W l a:=by
 obtain ⟨l,a,cap,Z,h2,X,h4⟩:=KA (α:=EX) enc W sp underlying23 YM B9 (λcs e=> ∃G vc N U O V,cs=e.cells G vc N U O V/\(e.name.length<=9223372036854775807/\e.g.wf)/\e.sits GH W G N O vc) (λn cs x _ hx=>Qd enc W sp hx) h;refine ⟨l,a,cap,Z,h2,h4,λe Y=>?_,X.mono aFh (λb o e _ _ ⟨cs,r,G,vc,N,U,O,V,k,_,s⟩=>by subst k;exact ⟨G,vc,N,U,O,V,r,s⟩)⟩;rcases X with rfl|⟨b,o,-,-,hh⟩
 . cases Y
 . obtain ⟨i,hi,rfl⟩:=List.mem_iff_getElem.1 Y;obtain ⟨cs,-,G,vc,N,U,O,V,-,k1,-⟩:=hh i _ (iE hi);exact k1
def exs_of_trodZ (enc:TypeId×Value->H) (W:wD) {r:Reach} {N:Nat} {v:Value} {d:DataW H} {ps:List MemPlace} {sp:Nat->Bool} (G:Value.okWide prog W r N 23 v) (h:DataW.Trod enc prog W 0 sp true 23 v d ps) :
 ∃(l:List EX) (a:oA) (c:Nat),v = .slice a l.length c/\l.length<=9223372036854775807/\l.length<=c/\(∀e∈l,e.name.length<=9223372036854775807/\e.g.wf)/\EXs GH W l a:=by
 obtain ⟨a0,len,cap,rfl⟩:=Go.WideShapes.okWide_slice underlying23 G;obtain ⟨M,O⟩:=h;exact NS enc W sp O
end Bk
namespace Bk
open Go Go.RowKit Go.Proofs
def All_d (l:List EX) (a:oA) (c:Nat) (w:wD) (_:l.length<=9223372036854775807) (_:l.length<=c) (h:∀e∈l,e.name.length<=9223372036854775807/\e.g.wf) (G:EXs GH w l a) :
 Calls prog 10 #[.slice a l.length c] w λe w'=>e = .returned (.bool true)/\Ext w w':=aU l h GH a c w G
end Bk
