/- Texts that the proofs of GradebookPlays need. No condition. (Part 9 of 9.) -/
import Derived.Test.YteiiipaobncfgaaGreatPGpl8
set_option linter.unusedSimpArgs false
set_option linter.unusedVariables false
set_option linter.defProp false
set_option maxRecDepth 100000
set_option maxHeartbeats 4000000
open Go.Proofs.Tryz
open Or renaming inl->gA,inr->gB
open Go.Result renaming andThen->gF
open Go renaming Calls->gS
open Except renaming bind->gZ
open Go.Value renaming slice->iA,int->iV,ownBlock->kw
open Nat renaming blt->iC,ble->jW,beq->kk
open Go.Region renaming ready->iH,binds->jM
open List renaming replicate->iK,range->jQ
open Go.DataW renaming trod->iQ
open Go.Builtin renaming zeroCells->jI
open Go.Addr renaming add->jY
open Go.Oper renaming wp->km
open Array renaming replicate->kn
open Go.IntKind renaming wrap->kN
open Go.Sem renaming run->kV
namespace Bk
open Go Go.RowKit Go.Proofs
variable {M:Nat} {H:Type} {cs:lV} {c:Value}
abbrev tR (enc:TypeId×Value->H) (W:wD) (sp:Nat->Bool) (n t:Nat) (l:lV) (i:Nat) (x:DataW H×List MemPlace):=iQ enc prog W 0 sp true n t ((l.drop i).take (prog.cellsOf t))=some x
def ES:nP:=λ_=>True
def N4 (W:wD) (b o:Nat):∀(len G:Nat),(∀i,i<len -> ∃(t:Nd) (M:oA) (N:Nat),t.wf/\W.cell? ⟨b,o+(G+i)*4,none⟩=some (.int .u8 t.kind)/\W.cell? ⟨b,o+(G+i)*4+1,none⟩=some (.int .i64 t.num)/\W.cell? ⟨b,o+(G+i)*4+2,none⟩=some (str t.name)/\W.cell? ⟨b,o+(G+i)*4+3,none⟩=some (.slice M t.kids.length N)/\t.sits ES W M) ->
 ∃l:List Nd,l.length=len/\CO l/\rowSits ES W l (some ⟨b,o+G*4,none⟩)
 | 0,_,_=>⟨[],rfl,by simp [CO],by simp [rowSits]⟩
 | len+1,G,h=>by
  obtain ⟨l,hl,hw,hs⟩:=N4 W b o len (G+1) (λi hi=>by
   have:=h (i+1) Ab;rwa [show G+(i+1)=G+1+i from by omega] at this)
  obtain ⟨t,M,N,O,V,X,Y,Z,U⟩:=h 0 Ab;rw [kH] at V X Y Z;refine ⟨t::l,by simp [hl],by simp [CO,O,hw],?_⟩;simp only [rowSits];refine ⟨b,o+G*4,M,N,rfl,trivial,V,X,Y,Z,U,?_⟩;rwa [show o+G*4+4=o+(G+1)*4 from by omega]
def cD {W:wD} {a:Addr} (h:W.cells? 0 a 4=some cs):∃G M N O,cs=[G,M,N,O]/\W.cell? (a.add 0)=some G/\W.cell? (a.add 1)=some M/\W.cell? (a.add 2)=some N/\W.cell? (a.add 3)=some O:=by
 unfold World.cells? at h;rw [AT (gI _)] at h;rw [show jQ 4=[0,1,2,3] from rfl] at h;cases e0:W.cell? (a.add 0)<;>simp [e0] at h
 cases e1:W.cell? (a.add 1)<;>simp [e1] at h
 cases e2:W.cell? (a.add 2)<;>simp [e2] at h
 cases e3:W.cell? (a.add 3)<;>simp [e3] at h
 exact ⟨_,_,_,_,h.symm,rfl,rfl,rfl,rfl⟩
def Vh (b o n m:Nat):((⟨b,o,none⟩:Addr).add n).add m=⟨b,o+n+m,none⟩:=by
 unfold jY;by_cases h:n=0<;>by_cases G:m=0<;>simp [h,G]
def Il:prog.cellsOf 29=4:=by kernel_rfl
def XO:prog.cellsOf 5=1:=by kernel_rfl
def XP:prog.cellsOf 3=1:=by kernel_rfl
def SD:prog.cellsOf 9=1:=by kernel_rfl
def ZJ:prog.cellsOf 27=1:=by kernel_rfl
def JN (enc:TypeId×Value->H) (W:wD) (sp:Nat->Bool) (N:Nat):∀(M:Nat),M<N -> ∀(cs:lV) (x:DataW H×List MemPlace),iQ enc prog W 0 sp true M 29 cs=some x ->
 ∃(t:Nd) (a:oA) (c:Nat),cs=[.int .u8 t.kind,.int .i64 t.num,str t.name,.slice a t.kids.length c]/\t.wf/\t.sits ES W a:=by
 induction N with
 | zero=>intro M h;omega
 | succ N ih=>
  intro M hN cs x h;obtain ⟨xs,n,rfl,-,hl,ad,hf⟩:=kK underlying29 h;rw [Il] at hl;obtain ⟨Z,c1,c2,c3,rfl⟩:∃Z c1 c2 c3,cs=[Z,c1,c2,c3]:=by
   rcases cs with _|⟨Z,_|⟨c1,_|⟨c2,_|⟨c3,_|⟨c4,cs⟩⟩⟩⟩⟩
   . simp at hl
   . simp at hl
   . simp at hl
   . simp at hl
   . exact ⟨_,_,_,_,rfl⟩
   . simp at hl
  obtain ⟨y0,y1,y2,y3,rfl⟩:∃y0 y1 y2 y3,xs=[y0,y1,y2,y3]:=by
   have G:xs.length=4:=ad;rcases xs with _|⟨Z,_|⟨c1,_|⟨c2,_|⟨c3,_|⟨c4,cs⟩⟩⟩⟩⟩
   . simp at G
   . simp at G
   . simp at G
   . simp at G
   . exact ⟨_,_,_,_,rfl⟩
   . simp at G
  . have f0:tR enc W sp n 5 [Z,c1,c2,c3] 0 y0:=hf 0 _ rfl;have f1:tR enc W sp n 3 [Z,c1,c2,c3] 1 y1:=hf 1 _ rfl;have f2:tR enc W sp n 9 [Z,c1,c2,c3] 2 y2:=hf 2 _ rfl;have f3:tR enc W sp n 27 [Z,c1,c2,c3] 3 y3:=hf 3 _ rfl;simp only [XO,XP,SD,ZJ,tR,kg,ki,iU,kz] at f0 f1 f2 f3;obtain ⟨k,hk,-,wk⟩:=lT (show prog.underlying 5=some (.int .u8) by kernel_rfl) f0;obtain ⟨m,hm,-,wm⟩:=lT underlying3 f1;obtain ⟨s,hs,-,ws⟩:=lf (show prog.underlying 9=some .string by kernel_rfl) f2;simp only [iP,and_true] at hk hm hs;subst hk hm hs;have O:0<=k/\k<=255:=by simpa [Lit.wf,IntKind.min,IntKind.max,IntKind.signed,IntKind.bits] using wk
    have U : -9223372036854775808<=m/\m<=9223372036854775807:=by simpa [Lit.wf,IntKind.min,IntKind.max,IntKind.signed,IntKind.bits] using wm
    have ab:s.data.toList.length<=9223372036854775807:=by
     have:s.data.toList.length=s.size:=by rw [jD];rfl
     unfold maxLen at ws;omega
    rcases mo underlying27 f3 with ⟨hc,-⟩|⟨a,len,cap,V,rest,n',ak,hc,-,-,al,ag,am,hE,-⟩
    . simp only [iP,and_true] at hc;subst hc;exact ⟨.mk k m s.data.toList [],none,0,rfl,⟨O.1,O.2,U.1,U.2,ab,AQ,by simp [CO]⟩,by simp [Nd.sits,rowSits]⟩
    . simp only [iP,and_true] at hc;subst hc;rw [Il] at hE;rcases me len with h0|ae
      . subst h0;exact ⟨.mk k m s.data.toList [],some a,cap,rfl,⟨O.1,O.2,U.1,U.2,ab,AQ,by simp [CO]⟩,by simp [Nd.sits,rowSits]⟩
      . have step:∀i,i<len -> ∃(t:Nd) (a':oA) (c':Nat),t.wf/\W.cell? ((a.add (i*4)).add 0)=some (.int .u8 t.kind)/\W.cell? ((a.add (i*4)).add 1)=some (.int .i64 t.num)/\W.cell? ((a.add (i*4)).add 2)=some (str t.name)/\W.cell? ((a.add (i*4)).add 3)=some (.slice a' t.kids.length c')/\t.sits ES W a':=by
         intro i hi;have X:=hE i hi;cases hc4:W.cells? 0 (a.add (i*4)) 4 with
         | none=>
          rw [hc4] at X;have hh:V[i]? = some V[i]:=fY Ab;rw [hh] at X;simp at X
         | some an=>
          rw [hc4,fY Ab] at X;obtain ⟨d0,d1,d2,d3,rfl,Y,e1,e2,e3⟩:=cD hc4;obtain ⟨t,a',c',af,hw,hs⟩:=ih n' Ab _ _ X;simp only [iP,and_true] at af;obtain ⟨rfl,rfl,rfl,rfl⟩:=af;exact ⟨t,a',c',hw,Y,e1,e2,e3,hs⟩
        obtain ⟨b,o,aa⟩:=a;have ac:aa=none:=by
         obtain ⟨t,a',c',-,Y,-⟩:=step 0 ae;simp only [lK,jY,if_true] at Y;unfold World.cell? at Y;cases aa with
         | none=>rfl
         | some q=>simp at Y;split at Y<;>simp at Y
        subst ac;obtain ⟨l,ah,ai,aj⟩:=N4 W b o len 0 (λi hi=>by
         obtain ⟨t,a',c',hw,Y,e1,e2,e3,hs⟩:=step i hi;rw [Vh] at Y e1 e2 e3;rw [iR];exact ⟨t,a',c',hw,Y,e1,e2,e3,hs⟩)
        subst ah;refine ⟨.mk k m s.data.toList l,some ⟨b,o,none⟩,cap,rfl,⟨O.1,O.2,U.1,U.2,ab,by unfold maxLen at ag;omega,ai⟩,?_⟩;simpa [Nd.sits] using aj
def Vi {W:wD} {p:Addr} {k:Nat} (h:W.cells? 0 p k=some cs):Row W p cs/\cs.length=k:=by
 unfold World.cells? at h;rw [AT (gI _)] at h;refine ⟨λi v G=>?_,by simpa using mapM_some_length h⟩;have O:cs.length=k:=by simpa using mapM_some_length h
 have M:i<k:=by
  rcases gQ i cs.length with N|N
  . omega
  . rw [gM N] at G;cases G
 have:=mapM_some_get h i i (by simp [M]);rw [G] at this;exact this
def XQ (b o i:Nat):(⟨b,o,none⟩:Addr).add i=⟨b,o+i,none⟩:=by unfold jY;by_cases h:i=0<;>simp [h]
def K3 {α:Type} (enc:TypeId×Value->H) (W:wD) (sp:Nat->Bool) {t e k:Nat} (ht:prog.underlying t=some (.slice e)) (hk:prog.cellsOf e=k) (ac:0<k) (G:lV->α->Prop) {N:Nat} (hG:∀(n:Nat) (cs:lV) (x:DataW H×List MemPlace),n<N->iQ enc prog W 0 sp true n e cs=some x -> ∃y,G cs y) {x:DataW H×List MemPlace} (h:iQ enc prog W 0 sp true N t [c]=some x) :
 ∃(l:List α) (a:oA) (cap:Nat),c = .slice a l.length cap/\l.length<=9223372036854775807/\Arr ES k (λw b o y=> ∃cs,Row w ⟨b,o,none⟩ cs/\G cs y) W l a:=by
 rcases mo ht h with ⟨V,-⟩|⟨a,len,cap,aa,rest,n',ad,V,-,-,ae,ab,af,hE,-⟩
 . simp only [iP,and_true] at V;exact ⟨[],none,0,V,AQ,gA rfl⟩
 . simp only [iP,and_true] at V;rw [hk] at hE;unfold maxLen at ab;rcases me len with h0|X
   . subst h0;exact ⟨[],some a,cap,V,AQ,gA rfl⟩
   . have step:∀i,i<len -> ∃y cs,Row W (a.add (i*k)) cs/\cs.length=k/\G cs y:=λi hi=>by
      have M:=hE i hi;cases hc4:W.cells? 0 (a.add (i*k)) k with
      | none=>
       rw [hc4,fY Ab] at M;simp at M
      | some cs=>
       rw [hc4,fY Ab] at M;obtain ⟨r1,r2⟩:=Vi hc4;obtain ⟨y,hy⟩:=hG n' cs _ Ab M;exact ⟨y,cs,r1,r2,hy⟩
     obtain ⟨b,o,Y⟩:=a;have O:Y=none:=by
      obtain ⟨y,cs,r,hl,-⟩:=step 0 X;simp only [lK,jY,if_true] at r;cases cs with
      | nil=>simp at hl;omega
      | cons v vs=>
       have:=r 0 v rfl;simp only [jY,if_true] at this;exact TF this
     subst O;have hl:∃l:List α,l.length=len /\ ∀i y,l[i]? = some y -> ∃cs,Row W ⟨b,o+i*k,none⟩ cs/\G cs y:=by
      have key:∀m,m<=len -> ∃l:List α,l.length=m /\ ∀i y,l[i]? = some y -> ∃cs,Row W ⟨b,o+i*k,none⟩ cs/\G cs y:=by
       intro m
       induction m with
       | zero=>intro _;exact ⟨[],rfl,AQ⟩
       | succ m ih=>
        intro hm;obtain ⟨l,Z,h2⟩:=ih Ab;obtain ⟨y,cs,r,-,hg⟩:=step m Ab;rw [XQ] at r;refine ⟨l++[y],by simp [Z],λi z U=>?_⟩;rcases gQ i m with hi|hi
        . rw [gN Ab] at U;exact h2 i z U
        . rw [gU Ab] at U;obtain rfl:i=m:=by
           rcases gQ m i with h'|h'
           . rw [gM (by simp;omega)] at U;cases U
           . omega
          simp [Z] at U;subst U;exact ⟨cs,r,hg⟩
      exact key len (gP _)
     obtain ⟨l,Z,h2⟩:=hl;subst Z;exact ⟨l,some ⟨b,o,none⟩,cap,V,Ab,gB ⟨b,o,rfl,trivial,h2⟩⟩
def fF (h:cs.length=3):∃a b c,cs=[a,b,c]:=by
 rcases cs with _|⟨a,_|⟨b,_|⟨c,_|⟨d,r⟩⟩⟩⟩<;>simp at h;exact ⟨a,b,c,rfl⟩
def XR (h:cs.length=6):∃a b c d e f,cs=[a,b,c,d,e,f]:=by
 rcases cs with _|⟨a,_|⟨b,_|⟨c,_|⟨d,_|⟨e,_|⟨f,_|⟨g,r⟩⟩⟩⟩⟩⟩⟩<;>simp at h;exact ⟨a,b,c,d,e,f,rfl⟩
def Bv {α:Type} {xs:List α} {n i:Nat} (h:xs.length=n) (G:i<n):∃y,xs[i]? = some y:=⟨xs[i],fY Ab⟩
def fL:prog.cellsOf 77=3:=by kernel_rfl
def dV:prog.cellsOf 25=1:=by kernel_rfl
def fM:prog.cellsOf 116=6:=by kernel_rfl
def fG:prog.cellsOf 26=1:=by kernel_rfl
def fW:prog.cellsOf 31=6:=by kernel_rfl
section
variable (enc:TypeId×Value->H) (W:wD) (sp:Nat->Bool)
def SE {x:DataW H×List MemPlace} (h:iQ enc prog W 0 sp true M 77 cs=some x):∃v:VD,cs=v.cells/\v.wf:=by
 obtain ⟨xs,n,rfl,-,hl,G,U⟩:=kK underlying77 h;rw [fL] at hl;obtain ⟨V,X,Y,rfl⟩:=fF hl;obtain ⟨y0,e0⟩:=Bv (i:=0) G C2;obtain ⟨y1,e1⟩:=Bv (i:=1) G C2;obtain ⟨y2,e2⟩:=Bv (i:=2) G C2;have f0:tR enc W sp n 9 [V,X,Y] 0 y0:=(U 0 _ rfl).trans e0;have f1:tR enc W sp n 5 [V,X,Y] 1 y1:=(U 1 _ rfl).trans e1;have f2:tR enc W sp n 3 [V,X,Y] 2 y2:=(U 2 _ rfl).trans e2;simp only [XO,XP,SD,tR,kg,ki,iU,kz] at f0 f1 f2;obtain ⟨s,hs,-,ws⟩:=lf DO f0;obtain ⟨k,hk,-,wk⟩:=lT (show prog.underlying 5=some (.int .u8) by kernel_rfl) f1;obtain ⟨m,hm,-,wm⟩:=lT underlying3 f2;simp only [iP,and_true] at hk hm hs;subst hk hm hs;have N:0<=k/\k<=255:=by simpa [Lit.wf,IntKind.min,IntKind.max,IntKind.signed,IntKind.bits] using wk
 have O : -9223372036854775808<=m/\m<=9223372036854775807:=by simpa [Lit.wf,IntKind.min,IntKind.max,IntKind.signed,IntKind.bits] using wm
 have Z:s.data.toList.length<=9223372036854775807:=by
  have:s.data.toList.length=s.size:=by rw [jD];rfl
  unfold maxLen at ws;omega
 exact ⟨⟨s.data.toList,k,m⟩,rfl,Z,N.1,N.2,O.1,O.2⟩
end
def GT {α:Type} (enc:TypeId×Value->H) (W:wD) (sp:Nat->Bool) {t e k:Nat} (X:prog.underlying t=some (.slice e)) (Z:prog.cellsOf e=k) (O:0<k) (G:lV->α->Prop) (hG:∀(n:Nat) (cs:lV) (x:DataW H×List MemPlace),n<M->iQ enc prog W 0 sp true n e cs=some x -> ∃y,G cs y) {x:DataW H×List MemPlace} (h:iQ enc prog W 0 sp true M t [c]=some x) :
 ∃(l:List α) (a:oA) (cap:Nat),c = .slice a l.length cap/\l.length<=9223372036854775807/\Arr ES k (λw b o y=> ∃cs,Row w ⟨b,o,none⟩ cs/\G cs y) W l a/\l.length<=cap:=by
 obtain ⟨l,a,cap,U,h2,h3⟩:=K3 enc W sp X Z O G hG h;refine ⟨l,a,cap,U,h2,h3,?_⟩;rcases mo X h with ⟨N,-⟩|⟨a',len,Y,V,rest,n',aa,N,-,-,ab,-⟩
 . simp only [iP,and_true] at N;rw [U] at N;simp only [iF] at N;omega
 . simp only [iP,and_true] at N;rw [U] at N;simp only [iF] at N;omega
section
variable (enc:TypeId×Value->H) (W:wD) (sp:Nat->Bool)
def JO {x:DataW H×List MemPlace} (h:iQ enc prog W 0 sp true M 25 [c]=some x) :
 ∃(l:List VD) (a:oA) (cap:Nat),c = .slice a l.length cap/\l.length<=9223372036854775807/\(∀v∈l,v.wf)/\VDs ES W l a/\l.length<=cap:=by
 obtain ⟨l,a,cap,O,U,G,V⟩:=GT (α:=VD) enc W sp underlying25 fL C2 (λcs v=>cs=v.cells/\v.wf) (λn cs x _ X=>SE enc W sp X) h;refine ⟨l,a,cap,O,U,λv N=>?_,G.mono aFh (λb o v _ _ ⟨cs,r,e,_⟩=>by subst e;exact r),V⟩;rcases G with rfl|⟨b,o,-,-,Y⟩
 . cases N
 . obtain ⟨i,Z,rfl⟩:=List.mem_iff_getElem.1 N;obtain ⟨cs,-,-,hw⟩:=Y i _ (fY Z);exact hw
def Ri {x:DataW H×List MemPlace} (h:iQ enc prog W 0 sp true M 116 cs=some x):∃p:PD,(∃U V X Y,cs=p.cells U V X Y/\VDs ES W p.params U/\p.body.sits ES W X/\p.params.length<=V)/\p.wf:=by
 obtain ⟨xs,n,rfl,-,hl,G,Z⟩:=kK underlying116 h;rw [fM] at hl;obtain ⟨c0,c1,c2,c3,c4,c5,rfl⟩:=XR hl;obtain ⟨y0,e0⟩:=Bv (i:=0) G C2;obtain ⟨y1,e1⟩:=Bv (i:=1) G C2;obtain ⟨y2,e2⟩:=Bv (i:=2) G C2;have f0:tR enc W sp n 9 [c0,c1,c2,c3,c4,c5] 0 y0:=(Z 0 _ rfl).trans e0;have f1:tR enc W sp n 25 [c0,c1,c2,c3,c4,c5] 1 y1:=(Z 1 _ rfl).trans e1;have f2:tR enc W sp n 29 [c0,c1,c2,c3,c4,c5] 2 y2:=(Z 2 _ rfl).trans e2;simp only [dV,SD,Il,tR,kg,ki,iU,kz] at f0 f1 f2;obtain ⟨s,hs,-,ws⟩:=lf DO f0;obtain ⟨l,U,V,hc,aa,ab,ac,ad⟩:=JO enc W sp f1;obtain ⟨t,X,Y,N,hw,O⟩:=JN enc W sp (n+1) n Ab _ _ f2;simp only [iP,and_true] at hs N;obtain ⟨rfl,rfl,rfl,rfl⟩:=N;subst hs hc;have ae:s.data.toList.length<=9223372036854775807:=by
  have:s.data.toList.length=s.size:=by rw [jD];rfl
  unfold maxLen at ws;omega
 exact ⟨⟨s.data.toList,l,t⟩,⟨U,V,X,Y,rfl,ac,O,ad⟩,ae,aa,ab,hw⟩
def K4 {x:DataW H×List MemPlace} (h:iQ enc prog W 0 sp true M 31 cs=some x):∃(g:PG) (va:oA) (vc:Nat) (G:oA) (N:Nat) (ma:oA) (mc:Nat),cs=g.cells va vc G N ma mc/\g.wf/\g.sits ES W va G ma/\PDsC ES W g.procs G/\g.vars.length<=vc:=by
 obtain ⟨xs,n,rfl,-,hl,U,hf⟩:=kK underlying31 h;rw [fW] at hl;obtain ⟨c0,c1,c2,c3,c4,c5,rfl⟩:=XR hl;obtain ⟨y0,e0⟩:=Bv (i:=0) U C2;obtain ⟨y1,e1⟩:=Bv (i:=1) U C2;obtain ⟨y2,e2⟩:=Bv (i:=2) U C2;have f0:tR enc W sp n 25 [c0,c1,c2,c3,c4,c5] 0 y0:=(hf 0 _ rfl).trans e0;have f1:tR enc W sp n 26 [c0,c1,c2,c3,c4,c5] 1 y1:=(hf 1 _ rfl).trans e1;have f2:tR enc W sp n 29 [c0,c1,c2,c3,c4,c5] 2 y2:=(hf 2 _ rfl).trans e2;simp only [dV,fG,Il,tR,kg,ki,iU,kz] at f0 f1 f2;obtain ⟨l,va,vc,hc,ab,ac,ad,ae⟩:=JO enc W sp f0;obtain ⟨ps,G,N,hp,af,V⟩:=K3 (α:=PD) enc W sp underlying26 fM C2 (λcs p=>(∃G N O X,cs=p.cells G N O X/\VDs ES W p.params G/\p.body.sits ES W O/\p.params.length<=N)/\p.wf) (λn cs x _ hx=>Ri enc W sp hx) f1;obtain ⟨t,O,X,Y,hw,Z⟩:=JN enc W sp (n+1) n Ab _ _ f2;simp only [iP,and_true] at Y;obtain ⟨rfl,rfl,rfl,rfl⟩:=Y;subst hc hp;have aa:PDsC ES W ps G:=V.mono aFh (λb o p _ _ ⟨cs,r,⟨G,N,O,X,e,h1,h2,h3⟩,_⟩=>by
  subst e;exact ⟨G,N,O,X,r,h1,h2,h3⟩)
 refine ⟨⟨l,ps,t⟩,va,vc,G,N,O,X,rfl,⟨ab,af,ac,λp hp=>?_,hw⟩,⟨ad,aa.pds,Z⟩,aa,ae⟩;rcases V with rfl|⟨b,o,-,-,hh⟩
 . cases hp
 . obtain ⟨i,hi,rfl⟩:=List.mem_iff_getElem.1 hp;obtain ⟨cs,-,-,hw⟩:=hh i _ (fY hi);exact hw
end
section
variable (enc:TypeId×Value->H) (W:wD) (sp:Nat->Bool)
def TA:prog.cellsOf 34=3:=by kernel_rfl
def XT:prog.cellsOf 36=12:=by kernel_rfl
def cF (h:cs.length=12):∃a b c d e f G M N O U f',cs=[a,b,c,d,e,f,G,M,N,O,U,f']:=by
 obtain ⟨a,b,c,d,e,f,V⟩:=XR (cs:=cs.take 6) (by rw [iE];omega);obtain ⟨G,M,N,O,U,f',X⟩:=XR (cs:=cs.drop 6) (by rw [ky];omega);refine ⟨a,b,c,d,e,f,G,M,N,O,U,f',?_⟩;rw [<-iT 6 cs,V,X];rfl
def Ed {x:DataW H×List MemPlace} (h:iQ enc prog W 0 sp true M 3 [c]=some x):∃m:Int,c = .int .i64 m /\ -9223372036854775808<=m/\m<=9223372036854775807:=by
 obtain ⟨m,G,-,N⟩:=lT underlying3 h;simp only [iP,and_true] at G;exact ⟨m,G,by simpa [Lit.wf,IntKind.min,IntKind.max,IntKind.signed,IntKind.bits] using N⟩
def O3 {x:DataW H×List MemPlace} (h:iQ enc prog W 0 sp true M 34 cs=some x) :
 ∃b:BoxV,cs=[.int .i64 b.v,.int .i64 b.l,.int .i64 b.i]/\(-9223372036854775808<=b.v/\b.v<=9223372036854775807)/\(-9223372036854775808<=b.l/\b.l<=9223372036854775807) /\ -9223372036854775808<=b.i/\b.i<=9223372036854775807:=by
 obtain ⟨xs,n,rfl,-,Y,G,N⟩:=kK underlying34 h;rw [TA] at Y;obtain ⟨O,U,V,rfl⟩:=fF Y;obtain ⟨y0,e0⟩:=Bv (i:=0) G C2;obtain ⟨y1,e1⟩:=Bv (i:=1) G C2;obtain ⟨y2,e2⟩:=Bv (i:=2) G C2;have Z:tR enc W sp n 3 [O,U,V] 0 y0:=(N 0 _ rfl).trans e0;have f1:tR enc W sp n 3 [O,U,V] 1 y1:=(N 1 _ rfl).trans e1;have f2:tR enc W sp n 3 [O,U,V] 2 y2:=(N 2 _ rfl).trans e2;simp only [XP,tR,kg,ki,iU,kz] at Z f1 f2;obtain ⟨v,rfl,hv⟩:=Ed enc W sp Z;obtain ⟨l,rfl,X⟩:=Ed enc W sp f1;obtain ⟨i,rfl,hi⟩:=Ed enc W sp f2;exact ⟨⟨v,l,i⟩,rfl,hv,X,hi⟩
def O4 {x:DataW H×List MemPlace} (h:iQ enc prog W 0 sp true M 36 cs=some x) :
 ∃(e:EX) (va:oA) (vc:Nat) (pa:oA) (pc:Nat) (ma:oA) (mc:Nat),cs=e.cells va vc pa pc ma mc/\(e.name.length<=9223372036854775807/\e.g.wf)/\e.sits ES W va pa ma vc:=by
 obtain ⟨xs,n,rfl,-,hl,G,N⟩:=kK underlying36 h;rw [XT] at hl;obtain ⟨O,U,V,X,Y,Z,c6,c7,c8,c9,ca,cb,rfl⟩:=cF hl;obtain ⟨y0,e0⟩:=Bv (i:=0) G C2;obtain ⟨y1,e1⟩:=Bv (i:=1) G C2;obtain ⟨y2,e2⟩:=Bv (i:=2) G C2;obtain ⟨y3,e3⟩:=Bv (i:=3) G C2;obtain ⟨y4,e4⟩:=Bv (i:=4) G C2;have f0:tR enc W sp n 9 [O,U,V,X,Y,Z,c6,c7,c8,c9,ca,cb] 0 y0:=(N 0 _ rfl).trans e0;have f1:tR enc W sp n 3 [O,U,V,X,Y,Z,c6,c7,c8,c9,ca,cb] 1 y1:=(N 1 _ rfl).trans e1;have f2:tR enc W sp n 3 [O,U,V,X,Y,Z,c6,c7,c8,c9,ca,cb] 2 y2:=(N 2 _ rfl).trans e2;have f3:tR enc W sp n 34 [O,U,V,X,Y,Z,c6,c7,c8,c9,ca,cb] 3 y3:=(N 3 _ rfl).trans e3;have f4:tR enc W sp n 31 [O,U,V,X,Y,Z,c6,c7,c8,c9,ca,cb] 6 y4:=(N 4 _ rfl).trans e4;simp only [XP,SD,TA,fW,tR,kg,ki,iU,kz] at f0 f1 f2 f3 f4;obtain ⟨s,hs,-,ws⟩:=lf DO f0;obtain ⟨po,rfl,hp⟩:=Ed enc W sp f1;obtain ⟨fu,rfl,hu⟩:=Ed enc W sp f2;obtain ⟨b,hb,af,ag,ah⟩:=O3 enc W sp f3;obtain ⟨g,va,vc,pa,pc,ma,mc,hg,ab,aa,ac,ad⟩:=K4 enc W sp f4;simp only [iP,and_true] at hs hb;obtain ⟨rfl,rfl,rfl⟩:=hb;subst hs
 unfold PG.cells at hg;simp only [iP,and_true] at hg;obtain ⟨rfl,rfl,rfl,rfl,rfl,rfl⟩:=hg;have ae:s.data.toList.length<=9223372036854775807:=by
  have:s.data.toList.length=s.size:=by rw [jD];rfl
  unfold maxLen at ws;omega
 exact ⟨⟨s.data.toList,po,fu,b,g⟩,va,vc,pa,pc,ma,mc,rfl,⟨ae,ab⟩,aa,ac,ad⟩
def fN:prog.cellsOf 65=8:=by kernel_rfl
def fH (h:cs.length=8):∃a b c d e f G M,cs=[a,b,c,d,e,f,G,M]:=by
 rcases cs with _|⟨a,_|⟨b,cs⟩⟩<;>simp at h
 obtain ⟨c,d,e,f,g,i,rfl⟩:=XR h;exact ⟨_,_,_,_,_,_,_,_,rfl⟩
def SF {x:DataW H×List MemPlace} (h:iQ enc prog W 0 sp true M 65 cs=some x) :
 ∃(s:SB) (O:oA) (vc:Nat) (U:oA) (X:Nat) (V:oA) (Y:Nat),cs=s.cells O vc U X V Y/\s.wf/\s.sits ES W O U V vc:=by
 obtain ⟨xs,n,rfl,-,hl,G,Z⟩:=kK underlying65 h;rw [fN] at hl;obtain ⟨c0,c1,c2,c3,c4,c5,c6,c7,rfl⟩:=fH hl;obtain ⟨y0,e0⟩:=Bv (i:=0) G C2;obtain ⟨y1,e1⟩:=Bv (i:=1) G C2;obtain ⟨y2,e2⟩:=Bv (i:=2) G C2;have f0:tR enc W sp n 9 [c0,c1,c2,c3,c4,c5,c6,c7] 0 y0:=(Z 0 _ rfl).trans e0;have f1:tR enc W sp n 9 [c0,c1,c2,c3,c4,c5,c6,c7] 1 y1:=(Z 1 _ rfl).trans e1;have f2:tR enc W sp n 31 [c0,c1,c2,c3,c4,c5,c6,c7] 2 y2:=(Z 2 _ rfl).trans e2;simp only [SD,fW,tR,kg,ki,iU,kz] at f0 f1 f2;obtain ⟨s,hs,-,ws⟩:=lf DO f0;obtain ⟨t,ht,-,wt⟩:=lf DO f1;obtain ⟨g,O,vc,U,X,V,Y,hg,aa,N,ab,ac⟩:=K4 enc W sp f2;simp only [iP,and_true] at hs ht;subst hs ht;unfold PG.cells at hg;simp only [iP,and_true] at hg;obtain ⟨rfl,rfl,rfl,rfl,rfl,rfl⟩:=hg;have ad:s.data.toList.length<=9223372036854775807:=by
  have:s.data.toList.length=s.size:=by rw [jD];rfl
  unfold maxLen at ws;omega
 have ae:t.data.toList.length<=9223372036854775807:=by
  have:t.data.toList.length=t.size:=by rw [jD];rfl
  unfold maxLen at wt;omega
 exact ⟨⟨s.data.toList,t.data.toList,g⟩,O,vc,U,X,V,Y,rfl,⟨ad,ae,aa⟩,N,ab,ac⟩
end
def M3 (enc:TypeId×Value->H) (W:wD) (sp:Nat->Bool) {x:DataW H×List MemPlace} (h:iQ enc prog W 0 sp true M 23 [c]=some x) :
 ∃(l:List EX) (a:oA) (cap:Nat),c = .slice a l.length cap/\l.length<=9223372036854775807/\l.length<=cap/\(∀e∈l,e.name.length<=9223372036854775807/\e.g.wf)/\EXs ES W l a:=by
 obtain ⟨l,a,cap,Z,h2,X,h4⟩:=GT (α:=EX) enc W sp underlying23 XT C2 (λcs e=> ∃G vc N U O V,cs=e.cells G vc N U O V/\(e.name.length<=9223372036854775807/\e.g.wf)/\e.sits ES W G N O vc) (λn cs x _ hx=>O4 enc W sp hx) h;refine ⟨l,a,cap,Z,h2,h4,λe Y=>?_,X.mono aFh (λb o e _ _ ⟨cs,r,G,vc,N,U,O,V,k,_,s⟩=>by subst k;exact ⟨G,vc,N,U,O,V,r,s⟩)⟩;rcases X with rfl|⟨b,o,-,-,hh⟩
 . cases Y
 . obtain ⟨i,hi,rfl⟩:=List.mem_iff_getElem.1 Y;obtain ⟨cs,-,G,vc,N,U,O,V,-,k1,-⟩:=hh i _ (fY hi);exact k1
def O5 (enc:TypeId×Value->H) (W:wD) (sp:Nat->Bool) {x:DataW H×List MemPlace} (h:iQ enc prog W 0 sp true M 60 [c]=some x) :
 ∃(l:List SB) (a:oA) (cap:Nat),c = .slice a l.length cap/\l.length<=9223372036854775807/\l.length<=cap/\(∀s∈l,s.wf)/\SBs ES W l a:=by
 obtain ⟨l,a,cap,Z,h2,X,h4⟩:=GT (α:=SB) enc W sp underlying60 fN C2 (λcs s=> ∃G vc N U O V,cs=s.cells G vc N U O V/\s.wf/\s.sits ES W G N O vc) (λn cs x _ hx=>SF enc W sp hx) h;refine ⟨l,a,cap,Z,h2,h4,λe Y=>?_,X.mono aFh (λb o e _ _ ⟨cs,r,G,vc,N,U,O,V,k,_,s⟩=>by subst k;exact ⟨G,vc,N,U,O,V,r,s⟩)⟩;rcases X with rfl|⟨b,o,-,-,hh⟩
 . cases Y
 . obtain ⟨i,hi,rfl⟩:=List.mem_iff_getElem.1 Y;obtain ⟨cs,-,G,vc,N,U,O,V,-,k1,-⟩:=hh i _ (fY hi);exact k1
def exs_of_trodZ (enc:TypeId×Value->H) (W:wD) {r:Reach} {N:Nat} {v:Value} {d:DataW H} {ps:List MemPlace} {sp:Nat->Bool} (G:Value.okWide prog W r N 23 v) (h:DataW.Trod enc prog W 0 sp true 23 v d ps) :
 ∃(l:List EX) (a:oA) (c:Nat),v = .slice a l.length c/\l.length<=9223372036854775807/\l.length<=c/\(∀e∈l,e.name.length<=9223372036854775807/\e.g.wf)/\EXs ES W l a:=by
 obtain ⟨a0,len,cap,rfl⟩:=Go.WideShapes.okWide_slice underlying23 G;obtain ⟨M,O⟩:=h;exact M3 enc W sp O
def sbs_of_trod (enc:TypeId×Value->H) (W:wD) {r:Reach} {N:Nat} {v:Value} {d:DataW H} {ps:List MemPlace} {sp:Nat->Bool} (G:Value.okWide prog W r N 60 v) (h:DataW.Trod enc prog W 0 sp true 60 v d ps) :
 ∃(l:List SB) (a:oA) (c:Nat),v = .slice a l.length c/\l.length<=9223372036854775807/\l.length<=c/\(∀s∈l,s.wf)/\SBs ES W l a:=by
 obtain ⟨a0,len,cap,rfl⟩:=Go.WideShapes.okWide_slice underlying60 G;obtain ⟨M,O⟩:=h;exact O5 enc W sp O
def Plays_d (l:List EX) (a:oA) (c:Nat) (h:List SB) (G:oA) (M:Nat) (w:wD) (_:l.length<=9223372036854775807) (_:l.length<=c) (O:∀e∈l,e.name.length<=9223372036854775807/\e.g.wf) (U:EXs ES w l a) (_:h.length<=9223372036854775807) (_:h.length<=M) (V:∀s∈h,s.wf) (N:SBs ES w h G) :
 Calls prog 6 #[.slice a l.length c,.slice G h.length M] w λe w'=>e = .returned (.bool true)/\Ext w w':=Vg l h O V ES ES a G c M w U N
end Bk
